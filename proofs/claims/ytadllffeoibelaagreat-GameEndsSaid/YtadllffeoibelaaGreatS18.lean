/-
  Parts of the proof. No condition.
-/
import Derived.Test.YtadllffeoibelaaGreatS17
open Go.Proofs.Tryz
namespace Go.Proofs.YtadllffeoibelaaGreat
set_option maxRecDepth 100000
set_option maxHeartbeats 32000000
set_option linter.all false
section
open Go.RowKit Go.Shelf
attribute [local go_sem ↓] Go.wp_at_zero Go.wp_at_succ Aq Au Av Aw Dl
attribute [local go_sem] BE BL BM BN FE AR AX AU
theorem MS{P:Program}{kt:TypeId}{κ:Type}[DecidableEq κ]{enc:κ->Value}{ops:Array Oper}{rest:List Oper}{o:Oper}{a:Act}{w:World}{Q:Exit->Act->World->Prop}(hg:o.guard=none)(t e:TypeId)(mo ko vo:Operand)(ho:o.op= .mapUpdate t mo ko vo)(m:Nat)(k:κ)(v:Value)(l:List (κ×Value))(hm:a.eval mo= .map (some m))(hk:a.eval ko=enc k)(hv:a.eval vo=v)(h:Bj enc w m l)(K':Fd P kt enc)(ht:P.underlying t=some (.map kt e))(hK:∀w',Bj enc w' m (CJ k v l)->w.grownBy w' (some m)->w'.heap.size=w.heap.size->wpList P ops Q rest (a.put o.dst undef) w'):wpList P ops Q (o::rest) a w:=by
 refine wpList_plain hg fun K hK2=>?_
 obtain⟨w',h1,h2,h3,h4⟩:=h.store K' ht k v (e:=e);unfold Oper.wp execOp;simp only[ho,hm,hk,hv,Sem.run_bind,h1,Result.andThen_ok,Sem.run_pure];exact hK2 _ _ (hK w' h2 h3 h4)
def Bp(k r:Int)(O:List Vt)(x:Vl):Prop:=∃v∈O,v.kind=k/\v.round=r/\¬v.choice=2/\Bh v=x
def Je(k r:Int)(O:List Vt)(kl:List (Vl×Value)):Prop:=(∀q∈kl,Bp k r O q.1)/\(∀x,Bp k r O x->∃u,BR x kl=some u)/\kl.length<=O.length/\(kl.map (·.1)).Nodup
theorem Je.nil(k r:Int):Je k r [] []:=⟨fun q h=>(by cases h),fun x ⟨v,hv,_⟩=>(by cases hv),AB _,by simp⟩
theorem Bp.more{k r:Int}{O O':List Vt}{x:Vl}(h:Bp k r O x):Bp k r (O++O') x:=by
 obtain⟨v,hv,h⟩:=h;exact⟨v,BB _ hv,h⟩
theorem Jf{κ:Type}[DecidableEq κ]{k:κ}{v:Value}{q:κ×Value}:∀{l:List (κ×Value)},q∈CJ k v l->q∈l∨q.1=k
 |[],h=>by
  simp[CJ]at h;exact .inr (by rw[h])
 |p::l,h=>by
  unfold CJ at h;split at h
  ·rename_i hp
   rcases List.mem_cons.1 h with h|h
   ·exact .inr (by rw[h])
   ·exact .inl (List.mem_cons_of_mem _ h)
  ·rcases List.mem_cons.1 h with h|h
   ·exact .inl (by rw[h];exact Am)
   ·rcases Jf h with h|h
    ·exact .inl (List.mem_cons_of_mem _ h)
    ·exact .inr h
theorem Jg{κ:Type}[DecidableEq κ]{k:κ}{v:Value}:∀{l:List (κ×Value)},(l.map (·.1)).Nodup->((CJ k v l).map (·.1)).Nodup
 |[],_=>by simp[CJ]
 |p::l,h=>by
  rw[List.map_cons,List.nodup_cons]at h;unfold CJ;split
  ·rename_i hp
   rw[List.map_cons,List.nodup_cons];exact⟨by show¬k∈_;rw[hp];exact h.1,h.2⟩
  ·rename_i hp
   rw[List.map_cons,List.nodup_cons];refine⟨fun hm=>?_,Jg h.2⟩;obtain⟨q,hq,e⟩:=List.mem_map.1 hm;rcases Jf hq with hq|hq
   ·exact h.1 (List.mem_map.2 ⟨q,hq,e⟩)
   ·exact hp (by rw[<-hq,e])
theorem Jh{κ:Type}[DecidableEq κ]:∀(ks L:List κ),ks.Nodup->(∀k∈ks,k∈L)->L.length<=ks.length->ks.Perm L
 |[],L,_,_,h=>by
  have e:L=[]:=AQ (by simpa using h);rw[e]
 |k::ks,L,hn,hc,hl=>by
  rw[List.nodup_cons]at hn;have hk:=hc k Am;have hp:=List.perm_cons_erase hk;have hl2:L.length=(L.erase k).length+1:=hp.length_eq;refine((Jh ks (L.erase k) hn.2 (fun x hx=>?_) (by rw[Ag]at hl;omega)).cons k).trans hp.symm;exact(List.mem_erase_of_ne (fun e=>hn.1 (by rw[<-e];exact hx))).2 (hc x (List.mem_cons_of_mem _ hx))
theorem Je.skip{k r:Int}{O:List Vt}{i:Nat}{x:Vt}{kl:List (Vl×Value)}(h:Je k r (O.take i) kl)(hx:O[i]? =some x)(hn:¬(x.kind=k/\x.round=r/\¬x.choice=2)):Je k r (O.take (i+1)) kl:=by
 rw[GN hx];refine⟨fun q hq=>(h.1 q hq).more,fun y ⟨v,hv,h1,h2,h3,h4⟩=>?_,by have:=h.2.2.1;rw[AI];omega,h.2.2.2⟩;rcases AP.1 hv with hv|hv
 ·exact h.2.1 y ⟨v,hv,h1,h2,h3,h4⟩
 ·rw[AM.1 hv]at h1 h2 h3;exact absurd ⟨h1,h2,h3⟩ hn
theorem Je.step{k r:Int}{O:List Vt}{i:Nat}{x:Vt}{kl:List (Vl×Value)}(u:Value)(h:Je k r (O.take i) kl)(hx:O[i]? =some x)(h1:x.kind=k)(h2:x.round=r)(h3:¬x.choice=2):Je k r (O.take (i+1)) (CJ (Bh x) u kl):=by
 rw[GN hx];refine⟨fun q hq=>?_,fun y ⟨v,hv,g1,g2,g3,g4⟩=>?_,?_,Jg h.2.2.2⟩
 ·rcases Jf hq with hq|hq
  ·exact(h.1 q hq).more
  ·rw[hq];exact⟨x,BY _ (AM.2 rfl),h1,h2,h3,rfl⟩
 ·rw[Cs];by_cases hy:y=Bh x
  ·exact⟨u,by rw[if_pos hy]⟩
  ·rw[if_neg hy];rcases AP.1 hv with hv|hv
   ·exact h.2.1 y ⟨v,hv,g1,g2,g3,g4⟩
   ·rw[AM.1 hv]at g4;exact absurd g4.symm hy
 ·have:=h.2.2.1;have:=MA (Bh x) u kl;rw[AI,List.length_singleton];omega
def Lb(L:List Vl)(p:Vl×Value):Prop:=p.1∈L
theorem Lb.snoc{L:List Vl}{k:Vl}{v:Value}{p:Vl×Value}(h:Lb L p∨p=(k,v)):Lb (L++[k]) p:=by
 rcases h with h|rfl
 ·exact BB _ h
 ·exact BY _ (AM.2 rfl)
def V3(L:List Vl):Prop:=L.Nodup/\(L.length<=12->Asc DG L)
def TK(k r:Int)(O:List Vt)(w:World)(e:Ending)(w':World):Prop:=
 ∃(v:Value) (L:List Vl),e= .returned v/\(∀x,x∈L↔Bp k r O x)/\L.length<=O.length/\V3 L/\w'.ownsRow w.heap.size 258 9 v L.length (L.flatMap vlc)/\Wx w w'
def Uw(k r:Int)(O:List Vt)(m:Nat)(w:World)(iv:Value)(wr:World):Prop:=
 ∃(i:Nat) (kl:List (Vl×Value)),iv= .int .i64 (i:Int)/\i<=O.length/\Je k r (O.take i) kl/\Bj Vl.val wr m kl/\w.grownBy wr (some m)
def Ux(m r pb:Nat)(kl:List (Vl×Value))(w:World)(wr:World):Prop:=
 ∃(cnt:Nat) (v:Value) (L:List Vl),C5 Vl.val wr m r kl cnt (Lb L)/\Blk wr pb 261 #[v]/\L.length+cnt<=kl.length/\(∀x∈L,∃u,(x,u)∈kl)/\wr.ownsRow w.heap.size 258 9 v L.length (L.flatMap vlc)/\Wx w wr
theorem Ji{w:World}{b:Nat}{M q s f:Int}{p:Nm}{A:Option Addr}{c mo:Nat}{O:List Vt}{ow:Int->Int->Bool}(h:FL w b M q s f p A c mo O ow)(hsm:O.length<=1000000)(kd rd:Int):Calls prog 210 #[.pointer (some ⟨b,0,none⟩),.int .i64 kd,.int .i64 rd] w (TK kd rd O w):=by
 obtain⟨m,hm⟩:=Wr w.heap.size;obtain⟨wm,hwm⟩:=Wr (w.alloc (.map #[] 0));have hmp:Bj Vl.val wm m []:=by rw[hwm,hm];exact Bj.new Vl.val w
 have hbm:Wx w wm:=by rw[hwm];exact(AC _ _).alloc (AB _) _
 have hV:=h.below hbm;have y1:wm.cell? ⟨b,12,none⟩=some (.slice A O.length c):=hV.blk.cell 12;have HR:=AA h.rd;have hmw:w.heap.size<=m:=by omega
 have HMp:=AA hmp;have HBm:=AA hbm;have HWm:=AA hwm;have HM:=AA hm;have hmk:∀W:World,(Instr.makeMap 290 none).run prog W= .ok (.map (some W.heap.size)) (W.alloc (.map #[] 0)):=fun W=>rfl
 have HOf:=AA (fun x W=>KG x W);have zC:=AA (fun W W' pb v D h1 h2 h3 h4=>Up W W' pb v D h1 h2 h3 h4);obtain⟨n,hn⟩:=Ws O.length;rw[hn]at y1 hsm;have HN:=AA hn;clear h hV hmp hbm hwm hm hn;go_enter func210,ntmps210;go_upto_region 2 with fail
 simp only[<-HWm.out,<-HM.out];go_wp2
 go_loopw [18] (fun iv wr=>Uw kd rd O m wm iv wr) (fun iv _=>n-(intOf iv).toNat)
 case atStart=>exact⟨0,[],rfl,Nat.zero_le _,Je.nil kd rd,HMp.out,Al wm m⟩
 case round=>
  obtain⟨i,kl,rfl,hin,hvb,zY,hgr⟩:=hrel;rw[HN.out]at hin;have HVb:=AA hvb;have yq:=AA zY;have HGr:=AA hgr;have hbw:Wx w wr:=HBm.out.grown hgr HBm.out.size (Wt hmw);clear hvb zY hgr;by_cases hi:i<n
  ·have di:=Wu (show i<n by omega)
   obtain⟨x,hx⟩:∃x,O[i]? =some x:=⟨_,AE (by rw[HN.out];exact hi)⟩;obtain⟨g0,o,rfl,hb,xH⟩:=HR.out.cells (by intro e;have:=AY vtc 22 O (CI O);rw[e,HN.out]at this;simp at this;omega);clear xH;have x1:AK wr g0 (o+i*22) 22=some x.cells:=(HR.out.below hbw).voteRow hx;have HXx:=AA hx;clear hx;go_upto_region 5 with(refine AJ rfl 46 (.tmp 9) (.tmp 21) rfl wr.heap.size x.cells rfl rfl 46 Bk.cells (Blk.new wr _ _) (by rfl) (by kernel_rfl) (fun u hu=>BH x hu) ?_;intro w4 hB4 hg4 xb)
   have zF:Hid (wm.grownBy w4 (some m)):=(Bm HGr.out _).andThen hg4 (Wt (.inl HGr.out.size));have yA:Hid (Bj Vl.val w4 m kl):=(yq.out.alloc _).kept hg4 (by intro e;injection e with e;have:=yq.out.is.lt;omega);obtain⟨z,hz⟩:=Wr wr.heap.size;rw[<-hz]at hB4 ⊢;have x4:AK w4 z 0 22=some x.cells:=hB4.row 22 rfl;have x5:w4.cell? ⟨z,0,none⟩=some (.int .i64 x.kind):=hB4.cell 0;have x6:w4.cell? ⟨z,2,none⟩=some (.int .i64 x.round):=hB4.cell 2;have x7:w4.cell? ⟨z,3,none⟩=some (.int .i64 x.choice):=hB4.cell 3;have hAX:m<w4.heap.size:=yA.out.is.lt;clear hB4 hg4 xb hz x1 hbw;try go_frame
   by_cases h1:x.kind=kd
   ·have e1:(x.kind==kd)=true:=by rw[h1];exact beq_self_eq_true _
    have H1:=AA h1;clear h1;by_cases h2:x.round=rd
    ·have e2:(x.round==rd)=true:=by rw[h2];exact beq_self_eq_true _
     have H2:=AA h2;clear h2;by_cases h3:x.choice=2
     ·have e3:(x.choice !=2)=false:=by rw[h3];rfl
      have HB':=AA (HVb.out.skip HXx.out (fun hh=>hh.2.2 h3));clear h3;go_wp2;go_roundw
      case rel=>exact⟨i+1,kl,by go_num,by rw[HN.out];omega,HB'.out,yA.out,zF.out⟩
      case measure=>simp[intOf];omega
     ·have e3:(x.choice !=2)=true:=by simpa using h3
      have HB':=AA (HVb.out.step (.int .i64 1) HXx.out H1.out H2.out h3);clear h3;go_wp2_with (first
       |(go_at_call 213;refine(HOf.out _ _).mono ?_;rintro en w5 ⟨rfl,hb5⟩;have hGP:Hid (Bj Vl.val w5 m kl):=yA.out.below hb5 hAX;have HGr5:Hid (wm.grownBy w5 (some m)):=zF.out.trans (Br hb5);clear hb5)
       |(refine MS rfl 290 3 (.tmp 37) (.tmp 39) (.const (.int .i64 1)) rfl m (Bh x) (.int .i64 1) kl rfl rfl rfl hGP.out WU underlying290 ?_;intro w6 hM6 hg6 hs6;have HM6:=AA hM6;have HGr6:Hid (wm.grownBy w6 (some m)):=HGr5.out.trans hg6;clear hM6 hg6))
      go_roundw
      case rel=>exact⟨i+1,_,by go_num,by rw[HN.out];omega,HB'.out,HM6.out,HGr6.out⟩
      case measure=>simp[intOf];omega
    ·have e2:(x.round==rd)=false:=by simpa using h2
     have HB':=AA (HVb.out.skip HXx.out (fun hh=>h2 hh.2.1));clear h2;go_wp2;go_roundw
     case rel=>exact⟨i+1,kl,by go_num,by rw[HN.out];omega,HB'.out,yA.out,zF.out⟩
     case measure=>simp[intOf];omega
   ·have e1:(x.kind==kd)=false:=by simpa using h1
    have HB':=AA (HVb.out.skip HXx.out (fun hh=>h1 hh.1));clear h1;go_wp2;go_roundw
    case rel=>exact⟨i+1,kl,by go_num,by rw[HN.out];omega,HB'.out,yA.out,zF.out⟩
    case measure=>simp[intOf];omega
  ·have di:=Wv (show n<=i by omega)
   have yF:Je kd rd O kl:=by
    have h:=HVb.out;rwa[AT (by rw[HN.out];omega)]at h
   have hkln:kl.length<=n:=by have:=yF.2.2.1;rw[HN.out]at this;exact this
   have yT:=AA yF;clear yF HVb;obtain⟨pb,hpb⟩:=Wr wr.heap.size;obtain⟨w5,hw5⟩:=Wr (wr.alloc (.cells #[.slice none 0 0] 261));have hBp:Blk w5 pb 261 #[.slice none 0 0]:=by rw[hw5,hpb];exact Blk.new wr _ _
   have hAq:Bj Vl.val w5 m kl:=by rw[hw5];exact yq.out.alloc _
   have yR:Wx w w5:=by rw[hw5];exact hbw.alloc hbw.size _
   have hpw:w.heap.size<=pb:=by rw[hpb];exact hbw.size
   have hCe:m≠pb:=by rw[hpb];have:=yq.out.is.lt;omega
   have HW5:=AA hw5;have HPb:=AA hpb;clear hw5 hpb;go_upto_region 9 with fail
   simp only[<-HW5.out,<-HPb.out];obtain⟨r,hr⟩:=Wr w5.heap.size;go_wp2_with (at_range;refine DY _ rfl _ 290 rfl _ _ underlying290 m kl rfl hAq (Lb []) ?_;intro o6 ON zd)
   have hAr:Blk (w5.alloc o6) pb 261 #[.slice none 0 0]:=hBp.alloc _;have xh:Wx w (w5.alloc o6):=yR.alloc yR.size _;rw[<-hr]at zd ⊢;have hrw:w.heap.size<=r:=by rw[hr];exact yR.size
   have hrp:r≠pb:=by have:=hBp.lt;omega
   generalize w5.alloc o6=w6 at*;have ze:=AA zd;have hAs:=AA hAr;clear zd hAr hr hBp hAq yR HW5 hbw;go_frame
   go_loopw [43] (fun _ wx=>Ux m r pb kl w wx) (fun _ wx=>JN m r wx)
   case atStart=>exact⟨ON,_,[],ze.out,hAs.out,by have:=ze.out.rng.le';simpa using this,fun o ho=>(List.not_mem_nil ho).elim,⟨by simp,.inl ⟨rfl,rfl⟩⟩,xh⟩
   case round=>
    obtain⟨cnt,v,L,hrg,hBp,hLc,hL,xB,hbx⟩:=hrel;have HRg:=AA hrg;have HBp:=AA hBp;have HL3:=AA hL;have xF:=AA xB;have y2:wr.cell? ⟨pb,0,none⟩=some v:=hBp.cell 0;have hL6:L.length<=1000000:=by omega
    have hrx:r<wr.heap.size:=hrg.rng.lt;have hpx:pb<wr.heap.size:=hBp.lt;have hmx:m<wr.heap.size:=hrg.rng.mlt;clear hrg hBp hL xB ze hAs;go_wp2_with (at_next;refine Dm _ rfl _ rfl m r cnt kl _ rfl HRg.out ?_ ?_)
    ·intro hAt;have hCM:=AA hAt;clear hAt;have yQ:=AA (zC.out w wr pb v L xF.out hbx HBp.out hL6);clear zC;go_wp2_with fail
     refine yQ.out.mono ?_;rintro en w8 ⟨rfl,hB8,hb8,l8,hp8,ha8,xV⟩;have z1:w8.cell? ⟨pb,0,none⟩=some v:=hB8.cell 0;have HP8:=AA hp8;have HA8:=AA ha8;have HLk:Hid (L.length<=kl.length):=by unfold Hid;omega
     have zM:=AA xV;have hll:L.length<=O.length:=by rw[HN.out];omega
     clear hB8 hp8 ha8 xV yQ y2;go_wp2;go_ret;refine⟨v,l8,rfl,fun x=>(HP8.out.mem_iff).trans ⟨fun hx=>?_,fun hx=>?_⟩,by rw[HP8.out.length_eq];exact hll,⟨?_,fun h12=>HA8.out (by rw[<-HP8.out.length_eq];exact h12)⟩,zM.out,hb8⟩
     ·obtain⟨u,hu⟩:=HL3.out x hx;exact yT.out.1 _ hu
     ·obtain⟨u,hu⟩:=yT.out.2.1 x hx;exact hCM.out x u (E6 x u kl hu)
     ·refine(HP8.out.nodup_iff).2 (((Jh (kl.map (·.1)) L yT.out.2.2.2 (fun k hk=>?_) (by rw[Ab];exact HLk.out)).nodup_iff).1 yT.out.2.2.2);obtain⟨⟨k',u⟩,hu,e⟩:=List.mem_map.1 hk;have e:k'=k:=e;subst e;exact hCM.out k' u hu
    ·intro k v1 w1 FW yM zQ zR hg1 hs1 hen;have zo:=AA yM;have hb1:Wx w w1:=hbx.grown hg1 hbx.size (Wt hrw);have zp:Hid (Blk w1 pb 261 #[v]):=HBp.out.kept hg1 (by intro e;injection e with e;exact hrp e.symm);have hnr:v.ownBlock≠some r:=fun e=>(HRg.out.rng.ne_row' xF.out).2 e.symm
     have HOwn1E:Hid (w1.ownsRow w.heap.size 258 9 v L.length (L.flatMap vlc)):=Ba xF.out hg1 (Wt (.inr hnr));have hCf:=AA zQ;clear yM zQ hg1 y2 hnr;clear hs1;go_upto_region 12 with fail
     obtain⟨w4,hw4⟩:=Wr (w1.alloc (.cells k.cells 258));rw[<-hw4];have yx:Hid (C5 Vl.val w4 m r kl FW (fun p=>Lb L p∨p=(k,v1))):=by unfold Hid;rw[hw4];exact hCf.out.alloc _
     have yU:Hid (Blk w4 pb 261 #[v]):=by unfold Hid;rw[hw4];exact zp.out.alloc _
     have xJ:Hid (w4.ownsRow w.heap.size 258 9 v L.length (L.flatMap vlc)):=by unfold Hid;rw[hw4];exact HOwn1E.out.alloc _
     have hb4:Wx w w4:=by rw[hw4];exact hb1.alloc hb1.size _
     have hB4:Blk w4 w1.heap.size 258 k.cells:=by rw[hw4];exact Blk.new w1 _ _
     clear hw4;obtain⟨z,hz⟩:=Wr w1.heap.size;rw[<-hz]at hB4 ⊢;have x3:AK w4 z 0 9=some k.cells:=hB4.row 9 rfl;have y4:w4.cell? ⟨pb,0,none⟩=some v:=yU.out.cell 0;clear hB4 hz hen zp HOwn1E hb1;try go_frame
     go_wp2_with ((first
      |(refine BQ rfl 261 258 (.tmp 48) rfl k.cells rfl underlying261 (by kernel_rfl) (by decide) (by decide) ?_)
      |(at_builtin;refine Ar rfl (.tmp 47) (.tmp 49) _ rfl w.heap.size 258 Vl.zero.val 9 16 underlying261 UH rfl (by decide) v L.length (L.flatMap vlc) rfl ?r0 (w4.heap.size+1) (some ⟨w4.heap.size,0,none⟩) 1 1 (vlc k) rfl ?r1 ?r2 ?r3 ?r4 ?r5 ?r6 ?_)))
     case r0=>exact xJ.out.alloc _
     case r1=>rfl
     case r2=>exact Rd.mk (by omega) (fun j u hu=>by rw[Nat.zero_add,(Blk.new w4 _ _).cell];simpa using hu)
     case r3=>exact fun u hu=>EQ k hu
     case r4=>omega
     case r5=>unfold maxLen;omega
     case r6=>have:=hb4.size;simp;omega
     intro v7 w7 xE hg7 xo;have hAu:some pb≠v.ownBlock:=CO xJ.out yU.out (by decide);have hnn:=yx.out.rng.ne_row' xJ.out;have yy:Hid (Blk w7 pb 261 #[v]):=(yU.out.alloc _).kept hg7 hAu;have hCh:Hid (C5 Vl.val w7 m r kl FW (fun p=>Lb L p∨p=(k,v1))):=(yx.out.alloc _).kept hg7 hnn.1 hnn.2;have hb7:Wx w w7:=BO (hb4.alloc hb4.size _) (xJ.out.alloc _) hg7;have hAv:some pb≠v7.ownBlock:=CO xE yy.out (by decide);obtain⟨g7,cap7,rfl⟩:=ownsRow_succ xE;have xO:=AA xE;have HNe:=AA hAv;have y6:w7.cell? ⟨pb,0,none⟩=some v:=yy.out.cell 0;have y7:w7.frozen? ⟨pb,0,none⟩=false:=yy.out.frozen 0;clear xE hg7 xo hAu hnn hAv y4 x3;go_wp2;try go_frame
     have hAw:Hid (C5 Vl.val (w7.setCell ⟨pb,0,none⟩ (.slice (some ⟨g7,0,none⟩) (L.length+1) cap7)) m r kl FW (Lb (L++[k]))):=(hCh.out.kept (Bl (p:=⟨pb,0,none⟩) (Al w7 pb) rfl _) (by intro e;injection e with e;exact hCe e) (by intro e;injection e with e;exact hrp e)).mono (fun p hp=>Lb.snoc hp);go_roundw
     case rel=>
      refine⟨FW,_,L++[k],hAw.out,yy.out.put 0 _,by rw[AI];simp;omega,?_,?_,hb7.setCell hpw _⟩
      ·intro t ht;rcases AP.1 ht with ht|ht
       ·exact HL3.out t ht
       ·rw[AM.1 ht];exact⟨v1,zo.out⟩
      ·have h:=Ba xO.out (Bl (p:=⟨pb,0,none⟩) (Al w7 pb) rfl (.slice (some ⟨g7,0,none⟩) (L.length+1) cap7)) (Wt (.inr (fun e=>HNe.out e.symm)));rw[AI,Af];simpa using h
     case measure=>rw[hAw.out.rng.left_eq,HRg.out.rng.left_eq];exact zR
def Hg(r:Int)(L:List Vl):Option Vl:=match L[0]? with
 |none=>none
 |some x=>if(r+1)%2=1/\x.choice=0 then(match L[1]? with
  |some y=>some y
  |none=>some x)else some x
def Jj(r:Int)(O:List Vt)(o:Option Vl):Prop:=∃L:List Vl,(∀x,x∈L↔Bp 3 r O x)/\V3 L/\o=Hg r L
theorem Lc{r:Int}{L:List Vl}{x:Vl}(h0:L[0]? =some x)(hn:¬((r+1)%2=1/\x.choice=0)):some x=Hg r L:=by
 unfold Hg;rw[h0];exact(if_neg hn).symm
theorem Uy{r:Int}{L:List Vl}{x y:Vl}(h0:L[0]? =some x)(hc:(r+1)%2=1/\x.choice=0)(h1:L[1]? =some y):some y=Hg r L:=by
 unfold Hg;rw[h0,h1];exact(if_pos hc).symm
theorem Uz{r:Int}{L:List Vl}{x:Vl}(h0:L[0]? =some x)(h1:L[1]? =none):some x=Hg r L:=by
 unfold Hg;rw[h0,h1];by_cases hc:(r+1)%2=1/\x.choice=0
 ·exact(if_pos hc).symm
 ·exact(if_neg hc).symm
theorem Jj.is{r:Int}{O:List Vt}{x:Vl}(h:Jj r O (some x)):Bp 3 r O x:=by
 obtain⟨L,h1,_,h3⟩:=h;refine(h1 x).1 ?_;unfold Hg at h3;split at h3
 ·cases h3
 ·rename_i y hy
  split at h3
  ·split at h3
   ·rename_i z hz
    injection h3 with h3
    rw[h3];exact AN hz
   ·injection h3 with h3
    rw[h3];exact AN hy
  ·injection h3 with h3
   rw[h3];exact AN hy
theorem Jj.no{r:Int}{O:List Vt}(h:Jj r O none):∀x,¬Bp 3 r O x:=by
 obtain⟨L,h1,_,h3⟩:=h;intro x hx;have hm:=(h1 x).2 hx;unfold Hg at h3;split at h3
 ·rename_i hn
  rw[List.getElem?_eq_none_iff]at hn;have e:L=[]:=AQ (by omega);rw[e]at hm;cases hm
 ·split at h3
  ·split at h3 <;> cases h3
  ·cases h3
end
section
open Go.RowKit
theorem Ka{P:Program}{op:Oper}{a:Act}{w:World}{K:Act->World->Prop}{Q:Exit->Act->World->Prop}(ty:TypeId)(x y:Operand)(ho:op.op= .store ty x y)(g i:Nat)(u:Value)(hx:a.eval x= .pointer (some ⟨g,i,none⟩))(hy:a.eval y=u)(t:TypeId)(cs:Array Value)(hB:Blk w g t cs)(hi:i<cs.size)(hz:(P.info? ty).map (·.size)=some 1)(h1:u.oneCell'=true)(hd:op.dst=none)(h:∀w',w'=w.setCell ⟨g,i,none⟩ u->Blk w' g t (cs.setIfInBounds i u)->w.grownBy w' (some g)->w'.heap.size=w.heap.size->K a w'):op.wp P a w K Q:=by
 obtain⟨ie,hie,hs⟩:=Option.map_eq_some_iff.1 hz;have xK:=Lib.rl_storeVar_one (P:=P) ty ie hie hs ⟨g,i,none⟩ u cs[i] h1 w (by rw[hB.cell,Array.getElem?_eq_getElem hi]) (hB.frozen i);unfold Oper.wp execOp;simp only[ho,hx,hy,Instr.storeAt,Instr.sureAddr,Sem.run_bind,Sem.run_pure,Result.andThen_ok,xK];have hK:=h _ rfl (hB.put i u) (Bl (Al w g) rfl u) (by simp[World.setCell]);have e:a.put op.dst undef=a:=by rw[hd];rfl
 rw[<-e]at hK;exact hK
end
section
open Go.RowKit Go.Shelf
attribute [local go_sem ↓] Go.wp_at_zero Go.wp_at_succ Aq Au Av Aw Dl
attribute [local go_sem] BE BL BM BN FE AR AX AU
theorem RY{α:Type}{l:List α}{i:Nat}{x:α}(hx:l[i]? =some x):l.take (i+1)=l.take i++[x]:=by
 rw[Ah,hx,BF]
def pW(kd rd:Int)(pr:Vt->Bool)(v:Vt):Bool:=decide (v.kind=kd)&&(decide (v.round=rd)&&pr v)
def RZ(b:Bool)(v:Vt)(m:Nat):Nat:=if b=true then m|||2^v.signer.toNat else m
theorem P5:(prog.info? 22).map (·.size)=some 1:=by kernel_rfl
theorem Ra(kd rd:Int)(pr:Vt->Bool)(bk br bf bm g n0 m:Nat)(lb:Array Value)(W0 W:World)(v:Vt)(hk:Blk W bk 3 #[.int .i64 kd])(hr:Blk W br 3 #[.int .i64 rd])(hf:Blk W bf 110 #[.func (.func g) #[] lb])(hm:Blk W bm 22 #[.int .i64 (m:Int)])(zG:m<1024)(hF:B5 n0 W0 g lb pr)(hW:Below n0 W0 W)(hn:n0<=W0.heap.size)(hv:AW v):Calls prog 253 #[v.val,.pointer (some ⟨bk,0,none⟩),.pointer (some ⟨br,0,none⟩),.pointer (some ⟨bf,0,none⟩),.pointer (some ⟨bm,0,none⟩)] W fun e w'=>e= .returned (.tuple #[])/\Blk w' bm 22 #[.int .i64 ((RZ (pW kd rd pr v) v m:Nat):Int)]/\W.grownBy w' (some bm):=by
 obtain⟨w1,hw1⟩:=Wr (W.alloc (.cells v.cells 46));have hb1:Wx W w1:=by rw[hw1];exact(AC _ _).alloc (AB _) _
 obtain⟨z,hz⟩:=Wr W.heap.size;have hx1:Blk w1 z 46 v.cells:=by rw[hw1,hz];exact Blk.new W _ _
 have hk1:=hk.below hb1 hk.lt;have hr1:=hr.below hb1 hr.lt;have hf1:=hf.below hb1 hf.lt;have hm1:=hm.below hb1 hm.lt;have y1:w1.cell? ⟨bk,0,none⟩=some (.int .i64 kd):=hk1.cell 0;have y2:w1.cell? ⟨br,0,none⟩=some (.int .i64 rd):=hr1.cell 0;have y3:w1.cell? ⟨bf,0,none⟩=some (.func (.func g) #[] lb):=hf1.cell 0;have x0:w1.cell? ⟨z,0,none⟩=some (.int .i64 v.kind):=hx1.cell 0;have x2:w1.cell? ⟨z,2,none⟩=some (.int .i64 v.round):=hx1.cell 2;have x9:AK w1 z 0 22=some v.cells:=hx1.row 22 rfl;have hGQ:W.grownBy w1 (some bm):=Br hb1;have HP:Hid (∀V,Wx w1 V->Calls prog g (#[v.val]++lb) V (An V (pr v))):=fun V hV=>hF.tells V (hW.trans ((hb1.trans (hV.mono hb1.size)).mono (AG hn hW.size))) v hv
 have eg:=hF.ent;obtain⟨sn,yw,hsn⟩:∃sn:Nat,sn<=9/\v.signer=(sn:Int):=⟨v.signer.toNat,by have:=hv.2.1;omega,by have:=hv.2.1;omega⟩;have hno:pW kd rd pr v=false->RZ (pW kd rd pr v) v m=m:=fun h=>by rw[h];rfl
 have hDU:pW kd rd pr v=true->RZ (pW kd rd pr v) v m=m|||2^sn:=fun h=>by rw[h,RZ,if_pos rfl,hsn];rfl
 obtain⟨k3,hk3⟩:=Wr (pr v);rw[<-hk3]at HP;obtain⟨t,ht⟩:=Wr (RZ (pW kd rd pr v) v m);rw[<-ht]at hno hDU ⊢;have hpw:pW kd rd pr v=(decide (v.kind=kd)&&(decide (v.round=rd)&&k3)):=by rw[hk3];rfl
 rw[hpw]at hno hDU;have HM:=AA hm1;have HX:=AA hx1;have HG:=AA hGQ;have HW:=AA hw1;have HZ:=AA hz;have HNo:=AA hno;have hCN:=AA hDU;have HSn:=AA hsn;clear hk hr hf hm hF hW hn hv hw1 hz hx1 hk1 hr1 hf1 hm1 hGQ hno hDU ht hk3 hpw hsn;go_enter func253,ntmps253;go_upto_region 1 with fail
 simp only[<-HW.out,<-HZ.out];by_cases h1:v.kind=kd
 ·have e1:(v.kind==kd)=true:=by rw[h1];exact beq_self_eq_true _
  have d1:decide (v.kind=kd)=true:=by simpa using h1
  by_cases h2:v.round=rd
  ·have e2:(v.round==rd)=true:=by rw[h2];exact beq_self_eq_true _
   have d2:decide (v.round=rd)=true:=by simpa using h2
   rw[d1,d2]at HNo hCN;clear h1 h2 d1 d2;go_wp2_with fail
   refine(HP.out _ (AC _ _)).mono ?_;rintro en w2 ⟨rfl,hb2⟩;have HM2:Hid (Blk w2 bm 22 #[.int .i64 (m:Int)]):=HM.out.below hb2 HM.out.lt;have HG2:Hid (W.grownBy w2 (some bm)):=HG.out.trans (Br hb2);have HZM:Hid (z≠bm):=fun e=>by have h1:=HX.out;have h2:=HM.out;rw[e]at h1;exact absurd (Cw h1 h2) (by decide)
   have HS:Hid (∀V,w2.grownBy V (some bm)->V.cell? ⟨z,4,none⟩=some (.int .i64 (sn:Int))):=fun V hV=>by rw[<-HSn.out];exact((HX.out.below hb2 HX.out.lt).kept hV (fun e=>by injection e with e;exact HZM.out e)).cell 4
   have HX2:Hid (Blk w2 z 46 v.cells):=HX.out.below hb2 HX.out.lt;cases k3 with
   |false=>
    have ht:=HNo.out rfl;subst ht;clear HNo hCN HS hb2 y1 y2 y3 x0 x2 x9;go_wp2;go_end0;exact⟨rfl,HM2.out,HG2.out⟩
   |true=>
    have ht:=hCN.out rfl;subst ht;clear HNo hCN hb2 y1 y2 y3 x0 x2 x9;have ym:w2.drew.cell? ⟨bm,0,none⟩=some (.int .i64 (m:Int)):=HM2.out.drew.cell 0;go_wp2_with fail
    refine rgD (fun V=>V.cell? ⟨z,4,none⟩=some (.int .i64 (sn:Int))) (HS.out _ (BZ (Al w2 bm))) fun _=>?_
    refine tkD 22 1 ?_;go_frame;refine tkD 23 2 ?_;go_frame;refine tkV 24 3 (.int .i64 ((2^sn:Nat):Int)) (fun wq _=>Hb (.tmp 23) sn rfl rfl yw wq) ?_;go_frame;refine rd1 0 fun K hK=>?_
    go_simp;refine hK.out _ _ (HS.out _ (BZ (Al w2 bm))) (fun _=>?_);clear hK K;try go_frame
    refine tkV 25 4 (.int .i64 ((m|||2^sn:Nat):Int)) (fun wq _=>Hc (.tmp 21) (.tmp 24) m sn rfl rfl rfl zG yw wq) ?_;go_frame;refine rd1 5 fun K hK=>?_
    rw[if_pos (by rfl)];refine Ka 22 (.tmp 4) (.tmp 25) (by rfl) bm 0 (.int .i64 ((m|||2^sn:Nat):Int)) (by rfl) (by rfl) 22 _ (HM2.out.drew) (by simp) P5 (by rfl) (by rfl) ?_;intro w5 hw5 hR5 hg5 yi;refine hK.out _ _ (HS.out _ ((BZ (Al w2 bm)).trans hg5)) (fun _=>?_);clear hK K;try go_frame
    refine dnD ?_;go_wp2_with fail
    go_end0;exact⟨rfl,hR5,(BZ HG2.out).trans hg5⟩
  ·have e2:(v.round==rd)=false:=by simpa using h2
   have d2:decide (v.round=rd)=false:=by simpa using h2
   rw[d1,d2]at HNo;have ht:=HNo.out rfl;subst ht;clear h1 h2 d1 d2 HNo hCN;go_wp2;go_end0;exact⟨rfl,HM.out,HG.out⟩
 ·have e1:(v.kind==kd)=false:=by simpa using h1
  have d1:decide (v.kind=kd)=false:=by simpa using h1
  rw[d1]at HNo;have ht:=HNo.out rfl;subst ht;clear h1 d1 HNo hCN;go_wp2;go_end0;exact⟨rfl,HM.out,HG.out⟩
def U0(kd rd:Int)(pr:Vt->Bool)(O:List Vt)(bm:Nat)(w:World)(iv:Value)(wr:World):Prop:=
 ∃i:Nat,iv= .int .i64 (i:Int)/\i<=O.length/\Blk wr bm 22 #[.int .i64 ((BX (pW kd rd pr) (O.take i):Nat):Int)]/\w.grownBy wr (some bm)
theorem Ok{w:World}{b:Nat}{M q s f:Int}{p:Nm}{A:Option Addr}{c mo:Nat}{O:List Vt}{ow:Int->Int->Bool}(h:FL w b M q s f p A c mo O ow)(hO:∀v∈O,AW v)(hsm:O.length<=1000000)(kd rd:Int)(pr:Vt->Bool)(g:Nat)(lb:Array Value)(hF:B5 w.heap.size w g lb pr):Calls prog 211 #[.pointer (some ⟨b,0,none⟩),.int .i64 kd,.int .i64 rd,.func (.func g) #[] lb] w fun e w'=>e= .returned (.int .i64 ((BX (pW kd rd pr) O:Nat):Int))/\Wx w w':=by
 obtain⟨w1,hw1⟩:=Wr (w.alloc (.cells #[.int .i64 kd] 3));obtain⟨w2,hw2⟩:=Wr (w1.alloc (.cells #[.int .i64 rd] 3));obtain⟨w3,hw3⟩:=Wr (w2.alloc (.cells #[.func (.func g) #[] lb] 110));obtain⟨w4,hw4⟩:=Wr (w3.alloc (.cells #[.int .i64 0] 22));have hs1:w1.heap.size=w.heap.size+1:=by rw[hw1];simp
 have hs2:w2.heap.size=w.heap.size+1+1:=by rw[hw2,World.size_alloc,hs1]
 have hs3:w3.heap.size=w.heap.size+1+1+1:=by rw[hw3,World.size_alloc,hs2]
 have hb1:Wx w w1:=by rw[hw1];exact(AC _ _).alloc (AB _) _
 have hb2:Wx w w2:=by rw[hw2];exact hb1.alloc hb1.size _
 have hb3:Wx w w3:=by rw[hw3];exact hb2.alloc hb2.size _
 have hb4:Wx w w4:=by rw[hw4];exact hb3.alloc hb3.size _
 obtain⟨bk,hbk⟩:=Wr w.heap.size;obtain⟨br,hbr⟩:=Wr (w.heap.size+1);obtain⟨bf,hbf⟩:=Wr (w.heap.size+1+1);obtain⟨bm,hbm⟩:=Wr w3.heap.size;have k4:Blk w4 bk 3 #[.int .i64 kd]:=by rw[hw4,hw3,hw2,hw1,hbk];exact(((Blk.new w _ _).alloc _).alloc _).alloc _
 have r4:Blk w4 br 3 #[.int .i64 rd]:=by rw[hw4,hw3,hw2,hbr,<-hs1];exact((Blk.new w1 _ _).alloc _).alloc _
 have f4:Blk w4 bf 110 #[.func (.func g) #[] lb]:=by rw[hw4,hw3,hbf,<-hs2];exact(Blk.new w2 _ _).alloc _
 have m4:Blk w4 bm 22 #[.int .i64 0]:=by rw[hw4,hbm];exact Blk.new w3 _ _
 have hV4:=h.below hb4;have y1:w4.cell? ⟨b,12,none⟩=some (.slice A O.length c):=hV4.blk.cell 12;have hmw:w.heap.size<=bm:=by omega
 have hkm:bk≠bm:=by omega
 have hrm:br≠bm:=by omega
 have hfm:bf≠bm:=by omega
 have HR:=AA (h.rd);have HO:=AA hO;have HK:=AA k4;have HRr:=AA r4;have HFb:=AA f4;have HM4:=AA m4;have HB4:=AA hb4;have HW1:=AA hw1;have HW2:=AA hw2;have HW3:=AA hw3;have HW4:=AA hw4;have HBk:=AA hbk;have HBr:=AA hbr;have HBf:=AA hbf;have HBm:=AA hbm;have HF:=AA hF;have ent:∀args W,(callFunc 253 args).run prog W= .ok (.enter 253 args) W:=enters_of func253 (by kernel_rfl) rfl;obtain⟨n,hn⟩:=Ws O.length;rw[hn]at y1 hsm;have HN:=AA hn;clear h hV4 hO hF k4 r4 f4 m4 hb1 hb2 hb3 hb4 hw1 hw2 hw3 hw4 hbk hbr hbf hbm hs1 hs2 hs3 hn;go_enter func211,ntmps211;go_upto_region 1 with fail
 simp only[<-HW1.out,<-HW2.out,<-HW3.out,<-HBf.out];simp only[<-HBr.out];go_upto_region 2 with fail
 simp only[<-HW4.out,<-HBm.out];simp only[<-HBk.out];go_wp2
 go_loopw [19] (fun iv wr=>U0 kd rd pr O bm w4 iv wr) (fun iv _=>n-(intOf iv).toNat)
 case atStart=>exact⟨0,rfl,Nat.zero_le _,HM4.out,Al w4 bm⟩
 case round=>
  obtain⟨i,rfl,hin,hbm,hgr⟩:=hrel;rw[HN.out]at hin;obtain⟨m,hm⟩:=Wr (BX (pW kd rd pr) (O.take i));rw[<-hm]at hbm;have zG:m<1024:=by
   rw[hm];exact Fa (fun v hv=>(HO.out v (List.mem_of_mem_take hv)).2.1)
  have HMm:=AA hm;have HBm:=AA hbm;have HGr:=AA hgr;clear hm hbm hgr;by_cases hi:i<n
  ·have di:=Wu (show i<n by omega)
   obtain⟨x,hx⟩:∃x,O[i]? =some x:=⟨_,AE (by rw[HN.out];exact hi)⟩;have hbw:Wx w wr:=HB4.out.grown HGr.out HB4.out.size (Wt hmw);obtain⟨g0,o,rfl,hb,xH⟩:=HR.out.cells (by intro e;have:=AY vtc 22 O (CI O);rw[e,HN.out]at this;simp at this;omega);clear xH;have x1:AK wr g0 (o+i*22) 22=some x.cells:=(HR.out.below hbw).voteRow hx;have HXx:=AA hx;have HXv:=AA (HO.out x (AN hx));clear hx;go_upto_region 6 with(refine AJ rfl 46 (.tmp 12) (.tmp 22) rfl wr.heap.size x.cells rfl rfl 46 Bk.cells (Blk.new wr _ _) (by rfl) (by kernel_rfl) (fun u hu=>BH x hu) ?_;intro w5 hB5 hg5 yi)
   have hbm5:wr.heap.size≠bm:=by have:=HBm.out.lt;omega
   have HM5:Hid (Blk w5 bm 22 #[.int .i64 (m:Int)]):=(HBm.out.alloc _).kept hg5 (by intro e;injection e with e;omega);have HG5:Hid (w4.grownBy w5 (some bm)):=(Bm HGr.out _).andThen hg5 (Wt (.inl HGr.out.size));have xS:Wx w w5:=HB4.out.grown HG5.out HB4.out.size (Wt hmw);obtain⟨z,hz⟩:=Wr wr.heap.size;rw[<-hz]at hB5 ⊢;have x5:AK w5 z 0 22=some x.cells:=hB5.row 22 rfl;have HC:=AA (Ra kd rd pr bk br bf bm g w.heap.size m lb w w5 x (HK.out.kept HG5.out (by intro e;injection e with e;exact hkm e)) (HRr.out.kept HG5.out (by intro e;injection e with e;exact hrm e)) (HFb.out.kept HG5.out (by intro e;injection e with e;exact hfm e)) HM5.out zG HF.out xS (AB _) HXv.out);clear hB5 hg5 yi hz x1 hbm5;try go_frame
   go_wp2_with fail
   refine HC.out.mono ?_;rintro en w6 ⟨rfl,hM6,hg6⟩;have HM6:=AA hM6;have HG6:Hid (w4.grownBy w6 (some bm)):=HG5.out.trans hg6;clear hM6 hg6 HC x5;go_wp2;go_roundw
   case rel=>
    refine⟨i+1,by go_num,by rw[HN.out];omega,?_,HG6.out⟩;rw[RY HXx.out,GX,<-HMm.out];exact HM6.out
   case measure=>simp[intOf];omega
  ·have di:=Wv (show n<=i by omega)
   have yF:m=BX (pW kd rd pr) O:=by rw[HMm.out,AT (by rw[HN.out];omega)]
   have y2:wr.cell? ⟨bm,0,none⟩=some (.int .i64 (m:Int)):=HBm.out.cell 0;have yT:=AA yF;clear yF;go_wp2;go_ret;exact⟨by rw[<-yT.out];rfl,HB4.out.grown HGr.out HB4.out.size (Wt hmw)⟩
end
section

def spF(s:Nat)(p:Nm)(l:List Vt):List Vt:=l.filter fun x=>decide (x.slot=(s:Int))&&decide (x.parent=p)
def owF(s:Nat)(p:Nm)(f:Int)(l:List Vt)(k r:Int):Bool:=(spF s p l).any fun x=>decide (x.signer=f)&&(decide (x.kind=k)&&decide (x.round=r))
def pV(k r:Int)(x:Vl):Vt->Bool:=pW k r (fun v=>decide (Bh v=x))
def pA(k r:Int):Vt->Bool:=pW k r (fun _=>true)
def pM(k r:Int):Vt->Bool:=pW k r (fun v=>decide (v.choice=2))
section
variable (M:Int)(q:Nat)(p:Nm)(s:Nat)(f:Int)
def Ff(l:List Vt)(H:List Nm)(ow:Int->Int->Bool):Option Vt->Prop
 |none=>ow 2 0=true∨∃O L,D0 M p (s:Int) (slB s l) O/\La 1 1 O L/\∀k∈L,¬k∈H
 |some v=>ow 2 0=false/\∃O k,D0 M p (s:Int) (slB s l) O/\¬k=Nm.zero/\1<=Ae (BX (pK 1 k) O) 10/\k∈H/\v=⟨2,s,0,1,f,0,p,k⟩
def EJ(l:List Vt)(wt:Bool)(ow:Int->Int->Bool):Option Vt->Prop
 |none=>ow 3 1=true∨(wt=false/\∃O,D0 M p (s:Int) (slB s l) O/\La 2 q O [])
 |some v=>ow 3 1=false/\((∃O O' k,D0 M p (s:Int) (slB s l) O/\D0 M p (s:Int) (slB s l) O'/\¬k=Nm.zero/\q<=Ae (BX (pK 2 k) O) 10/\v=⟨3,s,1,1,f,((CR (BX (pK 2 k) O') q:Nat):Int),p,k⟩)
   ∨(wt=true/\(∃O,D0 M p (s:Int) (slB s l) O/\La 2 q O [])/\v=⟨3,s,1,0,f,0,p,Nm.zero⟩))
def Db(O:List Vt)(ow:Int->Int->Bool)(r:Int):Option Vt->Prop
 |none=>ow 3 r=false∨ow 4 r=true∨((∀x,Bp 3 r O x->Ae (BX (pV 3 r x) O) 10<q)/\Ae (BX (pA 3 r) O) 10<q)
 |some v=>ow 3 r=true/\ow 4 r=false/\((∃x,Bp 3 r O x/\q<=Ae (BX (pV 3 r x) O) 10/\v=⟨4,s,r,x.choice,f,((CR (BX (pV 3 r x) O) q:Nat):Int),p,x.name⟩)
   ∨((∀x,Bp 3 r O x->Ae (BX (pV 3 r x) O) 10<q)/\q<=Ae (BX (pA 3 r) O) 10/\v=⟨4,s,r,2,f,((CR (BX (pA 3 r) O) q:Nat):Int),p,Nm.zero⟩))
abbrev eiS(O:List Vt)(r:Int)(x:Vl):Nat:=BX (pV 4 r x) O|||BX (pM 4 r) O
abbrev Kb(q:Nat)(O:List Vt)(r:Int)(x:Vl):Nat:=CR (BX (pV 4 r x) O) 1|||CR (xOf (bits .andNot .i64 ((eiS O r x:Nat):Int) ((CR (BX (pV 4 r x) O) 1:Nat):Int))) (q-1)
def E7(O:List Vt)(ow:Int->Int->Bool)(r:Int):Option Vt->Prop
 |none=>ow 4 r=false∨ow 3 (r+1)=true∨((∀x,Bp 4 r O x->Ae (eiS O r x) 10<q)/\(Ae (BX (pM 4 r) O) 10<q∨∀x,¬Bp 3 r O x))
 |some v=>ow 4 r=true/\ow 3 (r+1)=false/\
   ((∃x,Bp 4 r O x/\q<=Ae (eiS O r x) 10/\v=⟨3,s,r+1,x.choice,f,((Kb q O r x:Nat):Int),p,x.name⟩)∨
    ((∀x,Bp 4 r O x->Ae (eiS O r x) 10<q)/\q<=Ae (BX (pM 4 r) O) 10/\∃x,Jj r O (some x)/\v=⟨3,s,r+1,x.choice,f,((CR (BX (pM 4 r) O) q:Nat):Int),p,x.name⟩))
def Ce(l:List Vt)(H:List Nm)(wt:Bool):Option Vt->Prop
 |none=>¬((0<=f/\f<=9)/\(xOf M).testBit f.toNat=true)∨(xOf M).testBit s=false∨(∃L,He M p s l L/\¬L=[])∨
   (He M p s l []/\Ff M p s f (spF s p l) H (owF s p f l) none/\EJ M q p s f (spF s p l) wt (owF s p f l) none/\∃O,D0 M p (s:Int) (spF s p l) O/\∀r:Int,1<=r->r<=12->Db q p s f O (owF s p f l) r none/\(r<12->E7 q p s f O (owF s p f l) r none))
 |some v=>((0<=f/\f<=9)/\(xOf M).testBit f.toNat=true)/\(xOf M).testBit s=true/\He M p s l []/\
   (Ff M p s f (spF s p l) H (owF s p f l) (some v)∨
    (Ff M p s f (spF s p l) H (owF s p f l) none/\
     (EJ M q p s f (spF s p l) wt (owF s p f l) (some v)∨
      (EJ M q p s f (spF s p l) wt (owF s p f l) none/\∃(O:List Vt) (r:Int),D0 M p (s:Int) (spF s p l) O/\1<=r/\r<=12/\
       (∀r',1<=r'->r'<r->Db q p s f O (owF s p f l) r' none)/\(Db q p s f O (owF s p f l) r (some v)∨(r<12/\Db q p s f O (owF s p f l) r none/\E7 q p s f O (owF s p f l) r (some v)))))))
variable {M q p s f}
theorem Bp.fits{k r:Int}{O:List Vt}{x:Vl}(hO:∀v∈O,AW v)(hk:k=3∨k=4)(h:Bp k r O x):(x.choice=0∨x.choice=1)/\(x.choice=1↔¬x.name=Nm.zero)/\1<=r/\r<=12:=by
 obtain⟨v,hv,h1,h2,h3,rfl⟩:=h;obtain⟨_,_,a3,_,_,a6,a7,_⟩:=hO v hv;unfold Bh;refine⟨?_,a3,?_⟩
 ·rcases hk with hk|hk
  ·have:=a6 (by omega);show v.choice=0∨v.choice=1;omega
  ·have:=a7 (by omega);show v.choice=0∨v.choice=1;omega
 ·rcases hk with hk|hk
  ·have:=a6 (by omega);omega
  ·have:=a7 (by omega);omega
def Nk(s:Nat)(p:Nm)(f:Int)(ow:Int->Int->Bool)(v:Vt):Prop:=AW v/\v.slot=(s:Int)/\v.signer=f/\v.parent=p/\ow v.kind v.round=false
theorem Ff.due{l:List Vt}{H:List Nm}{ow:Int->Int->Bool}{v:Vt}(hs:s<=9)(hf:0<=f/\f<=9)(h:Ff M p s f l H ow (some v)):Nk s p f ow v:=by
 obtain⟨h1,O,k,_,h2,_,_,rfl⟩:=h;exact⟨⟨by simp,hf,by simp[h2],by simp,fun _=>⟨by simp;omega,rfl,rfl,rfl⟩,by simp,by simp,by simp⟩,rfl,rfl,rfl,h1⟩
theorem JD(S k:Nat):0<=((CR S k:Nat):Int)/\((CR S k:Nat):Int)<=1023:=by have:=Dr S k;omega
theorem EJ.due{l:List Vt}{wt:Bool}{ow:Int->Int->Bool}{v:Vt}(hs:s<=9)(hf:0<=f/\f<=9)(h:EJ M q p s f l wt ow (some v)):Nk s p f ow v:=by
 obtain⟨h1,⟨O,O',k,_,_,h2,_,rfl⟩|⟨_,_,rfl⟩⟩:=h
 ·exact⟨⟨by simp,hf,by simp[h2],JD _ _,by simp,fun _=>⟨by simp;omega,by simp,by simp,by simp⟩,by simp,by simp⟩,rfl,rfl,rfl,h1⟩
 ·exact⟨⟨by simp,hf,by simp,by simp,by simp,fun _=>⟨by simp;omega,by simp,by simp,by simp⟩,by simp,by simp⟩,rfl,rfl,rfl,h1⟩
theorem Db.due{O:List Vt}{ow:Int->Int->Bool}{r:Int}{v:Vt}(hO:∀v∈O,AW v)(hs:s<=9)(hf:0<=f/\f<=9)(hr:1<=r/\r<=12)(h:Db q p s f O ow r (some v)):Nk s p f ow v:=by
 obtain⟨_,h1,⟨x,hx,_,rfl⟩|⟨_,_,rfl⟩⟩:=h
 ·obtain⟨x1,x2,_⟩:=hx.fits hO (.inl rfl);exact⟨⟨by simp,hf,x2,JD _ _,by simp,by simp,fun _=>⟨by simp;omega,hr,by show 0<=x.choice/\x.choice<=2;omega⟩,by simp⟩,rfl,rfl,rfl,h1⟩
 ·exact⟨⟨by simp,hf,by simp,JD _ _,by simp,by simp,fun _=>⟨by simp;omega,hr,by simp⟩,by simp⟩,rfl,rfl,rfl,h1⟩
theorem U1{m n:Nat}(hm:m<1024)(hn:n<1024):0<=((m|||n:Nat):Int)/\((m|||n:Nat):Int)<=1023:=by have:=Nat.or_lt_two_pow (n:=10) hm hn;omega
theorem E7.due{O:List Vt}{ow:Int->Int->Bool}{r:Int}{v:Vt}(hO:∀v∈O,AW v)(hs:s<=9)(hf:0<=f/\f<=9)(hr:1<=r/\r<12)(h:E7 q p s f O ow r (some v)):Nk s p f ow v:=by
 obtain⟨_,h1,h⟩:=h;have key:∀(x:Vl) (m:Int),(x.choice=0∨x.choice=1)->(x.choice=1↔¬x.name=Nm.zero)->(0<=m/\m<=1023)->Nk s p f ow ⟨3,s,r+1,x.choice,f,m,p,x.name⟩:=fun x m h2 h3 h4=>
  ⟨⟨by simp,hf,h3,h4,by simp,fun _=>⟨by simp;omega,by show 1<=r+1/\r+1<=12;omega,by show 0<=x.choice/\x.choice<=1;omega,.inl (by show r+1≠1;omega)⟩,by simp,by simp⟩,rfl,rfl,rfl,h1⟩
 rcases h with⟨x,hx,_,rfl⟩|⟨_,_,x,hx,rfl⟩
 ·have:=hx.fits hO (.inr rfl);exact key x _ this.1 this.2.1 (U1 (Dr _ _) (Dr _ _))
 ·have:=hx.is.fits hO (.inl rfl);exact key x _ this.1 this.2.1 (JD _ _)
theorem Ce.due{l:List Vt}{H:List Nm}{wt:Bool}{v:Vt}(hl:∀v∈l,AW v)(hs:s<=9)(h:Ce M q p s f l H wt (some v)):Nk s p f (owF s p f l) v:=by
 obtain⟨⟨hf,_⟩,_,_,h⟩:=h;rcases h with h|⟨_,h|⟨_,O,r,hO,h1,h2,_,h⟩⟩
 ·exact h.due hs hf
 ·exact h.due hs hf
 ·have hV:∀v∈O,AW v:=fun v hv=>hl v (List.mem_filter.1 (hO.1.2 v hv).1).1
  rcases h with h|⟨h3,_,h⟩
  ·exact h.due hV hs hf ⟨h1,h2⟩
  ·exact h.due hV hs hf ⟨h1,h3⟩
end
end
section
open Go.RowKit
theorem MT(w:World):(zeroValue 3).run prog w= .ok (.int .i64 0) w:=by kernel_rfl
theorem Kw{o:Oper}{a:Act}(x y:Operand)(ho:o.op= .lookup 227 x y false)(m:Nat)(k:Int×Int)(hx:a.eval x= .map (some m))(hy:a.eval y=DM k){w:World}{kl:List ((Int×Int)×Value)}(h:Bj DM w m kl):(execOp a.eval o).run prog w= .ok (.value ((BR k kl).getD (.int .i64 0))) w:=by
 have hr:=h.is.look Pp underlying227 (.int .i64 0) (MT w) k false;unfold execOp;rw[ho];simp only[hx,hy];simp only[Bool.false_eq_true,if_false]at hr;simp[hr,Result.andThen]
theorem Om{op:Oper}{a:Act}{K:Act->World->Prop}{Q:Exit->Act->World->Prop}(x y:Operand)(ho:op.op= .mapEntry 227 x y)(m:Nat)(k:Int×Int)(hx:a.eval x= .map (some m))(hy:a.eval y=DM k){w:World}{kl:List ((Int×Int)×Value)}(h:Bj DM w m kl)(hK:∀(w':World) (b:Nat) (v:Value) (kl':List ((Int×Int)×Value)),KR DM w' m kl' k b->(∀k',BR k' kl'=if k'=k then some ((BR k kl).getD (.int .i64 0))else BR k' kl)->w.grownBy w' (some m)->w'.heap.size=w.heap.size->K (a.put op.dst (.tuple #[v,goInt (b:Int)])) w'):op.wp prog a w K Q:=by
 obtain⟨w',b,v,kl',hr,h1,h2,h3,h4,h5,h6⟩:=h.entryX Pp underlying227 (.int .i64 0) MT k;refine B9 (w':=w') (.tuple #[v,goInt (b:Int)]) ?_ (hK w' b v kl' h1 h2 h5 h6);unfold execOp;rw[ho];simp only[hx,hy];simp[hr,Result.andThen]
theorem On{op:Oper}{a:Act}{K:Act->World->Prop}{Q:Exit->Act->World->Prop}(x y z:Operand)(ho:op.op= .entryStore 227 x y z)(m b:Nat)(k:Int×Int)(v:Value)(hx:a.eval x= .map (some m))(hy:a.eval y=goInt (b:Int))(hz:a.eval z=v){w:World}{kl:List ((Int×Int)×Value)}(h:KR DM w m kl k b)(hK:∀(w':World) (kl':List ((Int×Int)×Value)),kl'=CJ k v kl->Bj DM w' m kl'->w.grownBy w' (some m)->w'.heap.size=w.heap.size->K (a.put op.dst undef) w'):op.wp prog a w K Q:=by
 obtain⟨w',hr,h1,h2,h3,h4,h5⟩:=h.store (P:=prog) 227 v;refine LT (w':=w') ?_ (hK w' _ rfl h1 h4 h5);unfold execOp;rw[ho];simp only[hx,hy,hz];simp[hr,Result.andThen]
theorem Kx{κ:Type}{enc:κ->Value}{w:World}{m base n size:Nat}{e:TypeId}{v:Value}{xs:List Value}{l:List (κ×Value)}(h:Bj enc w m l)(ho:w.ownsRow base e size v n xs):some m≠v.ownBlock:=by
 obtain⟨es,c,h1,_⟩:=h;rcases ho.2 with⟨rfl,_⟩|⟨g,cap,cur,rfl,_,hh,_⟩
 ·simp[Value.ownBlock]
 ·intro he;have:m=g:=by simpa[Value.ownBlock]using he
  subst this;rw[h1]at hh;cases hh
theorem Ky{κ:Type}{enc:κ->Value}{w:World}{m g t:Nat}{cs:Array Value}{l:List (κ×Value)}(h:Bj enc w m l)(hB:Blk w g t cs):m≠g:=by
 obtain⟨es,c,h1,_⟩:=h;rintro rfl;unfold Blk at hB;rw[h1]at hB;cases hB
theorem Oo{s:Nat}{p:Nm}{l:List Vt}{x:Vt}(h:x∈spF s p l):x∈l/\x.slot=(s:Int)/\x.parent=p:=by
 obtain⟨h1,h2⟩:=List.mem_filter.1 h;rw[Bool.and_eq_true,decide_eq_true_eq,decide_eq_true_eq]at h2;exact⟨h1,h2⟩
theorem MU{s:Nat}{p:Nm}{l:List Vt}{i:Nat}{x:Vt}(hx:l[i]? =some x):spF s p (l.take (i+1))=spF s p (l.take i)++if(decide (x.slot=(s:Int))&&decide (x.parent=p))=true then[x]else[]:=by
 unfold spF;rw[Ah,hx,BF,List.filter_append];simp only[List.filter_cons,List.filter_nil]
theorem Ld{s:Nat}{p:Nm}{l:List Vt}{i:Nat}{x:Vt}(hx:l[i]? =some x)(h1:x.slot=(s:Int))(h2:x.parent=p):spF s p (l.take (i+1))=spF s p (l.take i)++[x]:=by
 rw[MU hx,if_pos (by simp[h1,h2])]
theorem Jk{s:Nat}{p:Nm}{l:List Vt}{i:Nat}{x:Vt}(hx:l[i]? =some x)(h1:¬(x.slot=(s:Int)/\x.parent=p)):spF s p (l.take (i+1))=spF s p (l.take i):=by
 rw[MU hx,if_neg (by simpa using h1),List.append_nil]
def OwB(s:Nat)(p:Nm)(f:Int)(l:List Vt)(n:Nat)(kl:List ((Int×Int)×Value)):Prop:=
 ∀k r,∃z:Nat,(BR (k,r) kl).getD (.int .i64 0)= .int .i64 (z:Int)/\z<=n/\decide (0<z)=owF s p f l k r
theorem OwB.nil(s:Nat)(p:Nm)(f:Int):OwB s p f [] 0 []:=fun _ _=>⟨0,rfl,AB _,rfl⟩
theorem OwB.miss{s:Nat}{p:Nm}{f:Int}{l:List Vt}{i:Nat}{x:Vt}{kl:List ((Int×Int)×Value)}(h:OwB s p f (l.take i) i kl)(hx:l[i]? =some x)(h1:¬(x.slot=(s:Int)/\x.parent=p)):OwB s p f (l.take (i+1)) (i+1) kl:=fun k r=>by
 obtain⟨z,a1,a2,a3⟩:=h k r;refine⟨z,a1,by omega,?_⟩;rw[a3];unfold owF;rw[Jk hx h1]
theorem OwB.other{s:Nat}{p:Nm}{f:Int}{l:List Vt}{i:Nat}{x:Vt}{kl:List ((Int×Int)×Value)}(h:OwB s p f (l.take i) i kl)(hx:l[i]? =some x)(h1:x.slot=(s:Int))(h2:x.parent=p)(h3:¬x.signer=f):OwB s p f (l.take (i+1)) (i+1) kl:=fun k r=>by
 obtain⟨z,a1,a2,a3⟩:=h k r;refine⟨z,a1,by omega,?_⟩;rw[a3];unfold owF;rw[Ld hx h1 h2,List.any_append];simp[h3]
theorem OwB.hit{s:Nat}{p:Nm}{f:Int}{l:List Vt}{i z:Nat}{x:Vt}{kl kl5 kl6:List ((Int×Int)×Value)}(h:OwB s p f (l.take i) i kl)(hx:l[i]? =some x)(h1:x.slot=(s:Int))(h2:x.parent=p)(h3:x.signer=f)(hz:(BR (x.kind,x.round) kl).getD (.int .i64 0)= .int .i64 (z:Int))(h5:∀k',BR k' kl5=if k'=(x.kind,x.round)then some ((BR (x.kind,x.round) kl).getD (.int .i64 0))else BR k' kl)(h6:kl6=CJ (x.kind,x.round) (.int .i64 ((z+1:Nat):Int)) kl5):OwB s p f (l.take (i+1)) (i+1) kl6:=fun k r=>by
 have e:owF s p f (l.take (i+1)) k r=(owF s p f (l.take i) k r||(decide (x.kind=k)&&decide (x.round=r))):=by
  unfold owF;rw[Ld hx h1 h2,List.any_append];simp[h3]
 rw[e,h6,Cs];obtain⟨z',a1,a2,a3⟩:=h k r;by_cases hk:(k,r)=(x.kind,x.round)
 ·rw[if_pos hk,Option.getD_some];injection hk with hk1 hk2
  subst hk1;subst hk2;rw[a1]at hz;simp only[Value.int.injEq,true_and]at hz;exact⟨z+1,rfl,by omega,by simp⟩
 ·rw[if_neg hk,h5,if_neg hk];have:(decide (x.kind=k)&&decide (x.round=r))=false:=by
   rw[Bool.and_eq_false_iff,decide_eq_false_iff_not,decide_eq_false_iff_not];by_cases hk1:x.kind=k
   ·refine .inr fun hr=>hk (by rw[hk1,hr])
   ·exact .inl hk1
  rw[this,Bool.or_false];exact⟨z',a1,by omega,a3⟩
theorem Fq{o:Oper}{a:Act}(M q s f:Int)(p:Nm)(mo:Nat)(x0 x1 x2 x3 x4 x6:Operand)(ho:o.op= .build 229 #[(0,x0),(1,x1),(2,x2),(3,x3),(4,x4),(6,x6)])(h0:a.eval x0= .int .i64 M)(h1:a.eval x1=I q)(h2:a.eval x2=I s)(h3:a.eval x3=I f)(h4:a.eval x4= .agg p.cells)(h6:a.eval x6= .map (some mo))(w:World):(execOp a.eval o).run prog w= .ok (.value (.agg (Cp M q s f p none 0 0 mo))) w:=by
 unfold execOp;rw[ho];simp only[List.map_toArray,List.map_cons,List.map_nil,h0,h1,h2,h3,h4,h6];go_simp
end
end Go.Proofs.YtadllffeoibelaaGreat
