/-
  What these parts of the proof come to, functions walked and plain laws: Vals, StC, Who. No condition.
-/
import Derived.Test.YtadllffeoibelaaGreatS15
import Derived.Test.YtadllffeoibelaaGreatS27
import Derived.Test.YtadllffeoibelaaGreatS32
import Derived.Test.YtadllffeoibelaaGreatS6
import Derived.Lib.ReflectliteSwap
import Derived.Test.YtadllffeoibelaaGreatS23
namespace Go.Proofs.YtadllffeoibelaaGreat
set_option maxRecDepth 100000
set_option maxHeartbeats 32000000
set_option linter.all false
section
open Go.RowKit Go.Shelf
attribute [local go_sem ↓] Go.wp_at_zero Go.wp_at_succ An Au Av Aw DK
attribute [local go_sem] BD BH BI BJ EO AN AW AQ
theorem Li{P:Program}{kt:TypeId}{κ:Type}[DecidableEq κ]{enc:κ→Value}{ops:Array Oper}{rest:List Oper}{o:Oper}{a:Act}{w:World}{Q:Exit→Act→World→Prop}(hg:o.guard=none)(t e:TypeId)(mo ko vo:Operand)(ho:o.op= .mapUpdate t mo ko vo)(m:Nat)(k:κ)(v:Value)(l:List (κ×Value))(hm:a.eval mo= .map (some m))(hk:a.eval ko=enc k)(hv:a.eval vo=v)(h:Bh enc w m l)(K':Es P kt enc)(ht:P.underlying t=some (.map kt e))(hK:∀w',Bh enc w' m (CJ k v l)→w.grownBy w' (some m)→w'.heap.size=w.heap.size→wpList P ops Q rest (a.put o.dst undef) w'):wpList P ops Q (o::rest) a w:=by
 refine wpList_plain hg fun K hK2=>?_
 obtain⟨w',h1,h2,h3,h4⟩:=h.store K' ht k v (e:=e);unfold Oper.wp execOp;simp only[ho,hm,hk,hv,Sem.run_bind,h1,Result.andThen_ok,Sem.run_pure];exact hK2 _ _ (hK w' h2 h3 h4)
def Cn(k r:Int)(O:List Vt)(x:Vl):Prop:=∃v∈O,v.kind=k∧v.round=r∧¬v.choice=2∧Ew v=x
def I9(k r:Int)(O:List Vt)(kl:List (Vl×Value)):Prop:=(∀q∈kl,Cn k r O q.1)∧(∀x,Cn k r O x→∃u,BR x kl=some u)∧kl.length≤O.length
theorem I9.nil(k r:Int):I9 k r [] []:=⟨fun q h=>(by cases h),fun x ⟨v,hv,_⟩=>(by cases hv),AB _⟩
theorem Cn.more{k r:Int}{O O':List Vt}{x:Vl}(h:Cn k r O x):Cn k r (O++O') x:=by
 obtain⟨v,hv,h⟩:=h;exact⟨v,BS _ hv,h⟩
theorem Lj{κ:Type}[DecidableEq κ]{k:κ}{v:Value}{q:κ×Value}:∀{l:List (κ×Value)},q∈CJ k v l→q∈l∨q.1=k
 |[],h=>by
  simp[CJ]at h;exact .inr (by rw[h])
 |p::l,h=>by
  unfold CJ at h;split at h
  ·rename_i hp
   rcases List.mem_cons.1 h with h|h
   ·exact .inr (by rw[h])
   ·exact .inl (List.mem_cons_of_mem _ h)
  ·rcases List.mem_cons.1 h with h|h
   ·exact .inl (by rw[h];exact BB)
   ·rcases Lj h with h|h
    ·exact .inl (List.mem_cons_of_mem _ h)
    ·exact .inr h
theorem I9.skip{k r:Int}{O:List Vt}{i:Nat}{x:Vt}{kl:List (Vl×Value)}(h:I9 k r (O.take i) kl)(hx:O[i]? =some x)(hn:¬(x.kind=k∧x.round=r∧¬x.choice=2)):I9 k r (O.take (i+1)) kl:=by
 rw[Fd hx];refine⟨fun q hq=>(h.1 q hq).more,fun y ⟨v,hv,h1,h2,h3,h4⟩=>?_,by have:=h.2.2;rw[AI];omega⟩;rcases AP.1 hv with hv|hv
 ·exact h.2.1 y ⟨v,hv,h1,h2,h3,h4⟩
 ·rw[AR.1 hv]at h1 h2 h3;exact absurd ⟨h1,h2,h3⟩ hn
theorem I9.step{k r:Int}{O:List Vt}{i:Nat}{x:Vt}{kl:List (Vl×Value)}(u:Value)(h:I9 k r (O.take i) kl)(hx:O[i]? =some x)(h1:x.kind=k)(h2:x.round=r)(h3:¬x.choice=2):I9 k r (O.take (i+1)) (CJ (Ew x) u kl):=by
 rw[Fd hx];refine⟨fun q hq=>?_,fun y ⟨v,hv,g1,g2,g3,g4⟩=>?_,?_⟩
 ·rcases Lj hq with hq|hq
  ·exact(h.1 q hq).more
  ·rw[hq];exact⟨x,BU _ (AR.2 rfl),h1,h2,h3,rfl⟩
 ·rw[Cy];by_cases hy:y=Ew x
  ·exact⟨u,by rw[if_pos hy]⟩
  ·rw[if_neg hy];rcases AP.1 hv with hv|hv
   ·exact h.2.1 y ⟨v,hv,g1,g2,g3,g4⟩
   ·rw[AR.1 hv]at g4;exact absurd g4.symm hy
 ·have:=h.2.2;have:=K3 (Ew x) u kl;rw[AI,List.length_singleton];omega
def Kb(L:List Vl)(p:Vl×Value):Prop:=p.1∈L
theorem Kb.snoc{L:List Vl}{k:Vl}{v:Value}{p:Vl×Value}(h:Kb L p∨p=(k,v)):Kb (L++[k]) p:=by
 rcases h with h|rfl
 ·exact BS _ h
 ·exact BU _ (AR.2 rfl)
def Rp(k r:Int)(O:List Vt)(w:World)(e:Ending)(w':World):Prop:=
 ∃(v:Value) (L:List Vl),e= .returned v∧(∀x,x∈L↔Cn k r O x)∧L.length≤O.length∧w'.ownsRow w.heap.size 258 9 v L.length (L.flatMap vlc)∧Below w.heap.size w w'
def TB(k r:Int)(O:List Vt)(m:Nat)(w:World)(iv:Value)(wr:World):Prop:=
 ∃(i:Nat) (kl:List (Vl×Value)),iv= .int .i64 (i:Int)∧i≤O.length∧I9 k r (O.take i) kl∧Bh Vl.val wr m kl∧w.grownBy wr (some m)
def TC(m r pb:Nat)(kl:List (Vl×Value))(w:World)(wr:World):Prop:=
 ∃(cnt:Nat) (v:Value) (L:List Vl),Co Vl.val wr m r kl cnt (Kb L)∧Blk wr pb 261 #[v]∧L.length+cnt≤kl.length∧(∀x∈L,∃u,(x,u)∈kl)∧wr.ownsRow w.heap.size 258 9 v L.length (L.flatMap vlc)∧Below w.heap.size w wr
theorem JA{w:World}{b:Nat}{M q s f:Int}{p:Nm}{A:Option Addr}{c mo:Nat}{O:List Vt}{ow:Int→Int→Bool}(h:EU w b M q s f p A c mo O ow)(hsm:O.length≤1000000)(kd rd:Int):Calls Tryz.prog 210 #[.pointer (some ⟨b,0,none⟩),.int .i64 kd,.int .i64 rd] w (Rp kd rd O w):=by
 obtain⟨m,hm⟩:∃m,m=w.heap.size:=⟨_,rfl⟩;obtain⟨wm,hwm⟩:∃wm,wm=w.alloc (.map #[] 0):=⟨_,rfl⟩;have hmp:Bh Vl.val wm m []:=by rw[hwm,hm];exact Bh.new Vl.val w
 have hbm:Below w.heap.size w wm:=by rw[hwm];exact(AC _ _).alloc (AB _) _
 have hV:=h.below hbm;have y1:wm.cell? ⟨b,12,none⟩=some (.slice A O.length c):=hV.blk.cell 12;have HR:=AA h.rd;have hmw:w.heap.size≤m:=by omega
 have HMp:=AA hmp;have HBm:=AA hbm;have HWm:=AA hwm;have HM:=AA hm;have hmk:∀W:World,(Instr.makeMap 290 none).run Tryz.prog W= .ok (.map (some W.heap.size)) (W.alloc (.map #[] 0)):=fun W=>rfl
 have HOf:=AA (fun x W=>IZ x W);have HMid:=AA (fun W W' pb v D h1 h2 h3 h4=>S4 W W' pb v D h1 h2 h3 h4);obtain⟨n,hn⟩:∃n,O.length=n:=⟨_,rfl⟩;rw[hn]at y1 hsm;have HN:=AA hn;clear h hV hmp hbm hwm hm hn;go_enter Tryz.func210,Tryz.ntmps210;go_upto_region 2 with fail
 simp only[←HWm.out,←HM.out];go_wp2
 go_loopw [18] (fun iv wr=>TB kd rd O m wm iv wr) (fun iv _=>n-(intOf iv).toNat)
 case atStart=>exact⟨0,[],rfl,Nat.zero_le _,I9.nil kd rd,HMp.out,Ai wm m⟩
 case round=>
  obtain⟨i,kl,rfl,hin,hvb,hmap,hgr⟩:=hrel;rw[HN.out]at hin;have HVb:=AA hvb;have HMap:=AA hmap;have HGr:=AA hgr;have hbw:Below w.heap.size w wr:=HBm.out.grown hgr HBm.out.size (fun k hk=>by injection hk with hk;subst hk;exact hmw);clear hvb hmap hgr;by_cases hi:i<n
  ·have di:decide ((i:Int)<(n:Int))=true:=by simp;omega
   obtain⟨x,hx⟩:∃x,O[i]? =some x:=⟨_,AE (by rw[HN.out];exact hi)⟩;obtain⟨g0,o,rfl,hb,hcell⟩:=HR.out.cells (by intro e;have:=AX vtc 22 O (B6 O);rw[e,HN.out]at this;simp at this;omega);clear hcell;have x1:AK wr g0 (o+i*22) 22=some x.cells:=(HR.out.below hbw).voteRow hx;have HXx:=AA hx;clear hx;go_upto_region 5 with(refine AJ rfl 46 (.tmp 9) (.tmp 21) rfl wr.heap.size x.cells rfl rfl 46 Bk.cells (Blk.new wr _ _) (by rfl) (by kernel_rfl) (fun u hu=>BM x hu) ?_;intro w4 hB4 hg4 hsz4)
   have HGr4:Hid (wm.grownBy w4 (some m)):=(Bl HGr.out _).andThen hg4 (fun k hk=>by injection hk with hk;subst hk;exact .inl HGr.out.size);have HMap4:Hid (Bh Vl.val w4 m kl):=(HMap.out.alloc _).kept hg4 (by intro e;injection e with e;have:=HMap.out.is.lt;omega);obtain⟨z,hz⟩:∃z,z=wr.heap.size:=⟨_,rfl⟩;rw[←hz]at hB4 ⊢;have x4:AK w4 z 0 22=some x.cells:=hB4.row 22 rfl;have x5:w4.cell? ⟨z,0,none⟩=some (.int .i64 x.kind):=hB4.cell 0;have x6:w4.cell? ⟨z,2,none⟩=some (.int .i64 x.round):=hB4.cell 2;have x7:w4.cell? ⟨z,3,none⟩=some (.int .i64 x.choice):=hB4.cell 3;have hmw4:m<w4.heap.size:=HMap4.out.is.lt;clear hB4 hg4 hsz4 hz x1 hbw;try go_frame
   by_cases h1:x.kind=kd
   ·have e1:(x.kind==kd)=true:=by rw[h1];exact beq_self_eq_true _
    have H1:=AA h1;clear h1;by_cases h2:x.round=rd
    ·have e2:(x.round==rd)=true:=by rw[h2];exact beq_self_eq_true _
     have H2:=AA h2;clear h2;by_cases h3:x.choice=2
     ·have e3:(x.choice !=2)=false:=by rw[h3];rfl
      have HB':=AA (HVb.out.skip HXx.out (fun hh=>hh.2.2 h3));clear h3;go_wp2;go_roundw
      case rel=>exact⟨i+1,kl,by go_num,by rw[HN.out];omega,HB'.out,HMap4.out,HGr4.out⟩
      case measure=>simp[intOf];omega
     ·have e3:(x.choice !=2)=true:=by simpa using h3
      have HB':=AA (HVb.out.step (.int .i64 1) HXx.out H1.out H2.out h3);clear h3;go_wp2_with (first
       |(go_at_call 213;refine(HOf.out _ _).mono ?_;rintro en w5 ⟨rfl,hb5⟩;have HMap5:Hid (Bh Vl.val w5 m kl):=HMap4.out.below hb5 hmw4;have HGr5:Hid (wm.grownBy w5 (some m)):=HGr4.out.trans (Bm hb5);clear hb5)
       |(refine Li rfl 290 3 (.tmp 37) (.tmp 39) (.const (.int .i64 1)) rfl m (Ew x) (.int .i64 1) kl rfl rfl rfl HMap5.out Te Tryz.underlying290 ?_;intro w6 hM6 hg6 hs6;have HM6:=AA hM6;have HGr6:Hid (wm.grownBy w6 (some m)):=HGr5.out.trans hg6;clear hM6 hg6))
      go_roundw
      case rel=>exact⟨i+1,_,by go_num,by rw[HN.out];omega,HB'.out,HM6.out,HGr6.out⟩
      case measure=>simp[intOf];omega
    ·have e2:(x.round==rd)=false:=by simpa using h2
     have HB':=AA (HVb.out.skip HXx.out (fun hh=>h2 hh.2.1));clear h2;go_wp2;go_roundw
     case rel=>exact⟨i+1,kl,by go_num,by rw[HN.out];omega,HB'.out,HMap4.out,HGr4.out⟩
     case measure=>simp[intOf];omega
   ·have e1:(x.kind==kd)=false:=by simpa using h1
    have HB':=AA (HVb.out.skip HXx.out (fun hh=>h1 hh.1));clear h1;go_wp2;go_roundw
    case rel=>exact⟨i+1,kl,by go_num,by rw[HN.out];omega,HB'.out,HMap4.out,HGr4.out⟩
    case measure=>simp[intOf];omega
  ·have di:decide ((i:Int)<(n:Int))=false:=by simp;omega
   have hall:I9 kd rd O kl:=by
    have h:=HVb.out;rwa[AT (by rw[HN.out];omega)]at h
   have hkln:kl.length≤n:=by have:=hall.2.2;rw[HN.out]at this;exact this
   have HAll:=AA hall;clear hall HVb;obtain⟨pb,hpb⟩:∃pb,pb=wr.heap.size:=⟨_,rfl⟩;obtain⟨w5,hw5⟩:∃w5,w5=wr.alloc (.cells #[.slice none 0 0] 261):=⟨_,rfl⟩;have hBp:Blk w5 pb 261 #[.slice none 0 0]:=by rw[hw5,hpb];exact Blk.new wr _ _
   have hmp5:Bh Vl.val w5 m kl:=by rw[hw5];exact HMap.out.alloc _
   have hbw5':Below w.heap.size w w5:=by rw[hw5];exact hbw.alloc hbw.size _
   have hpw:w.heap.size≤pb:=by rw[hpb];exact hbw.size
   have hmpb:m≠pb:=by rw[hpb];have:=HMap.out.is.lt;omega
   have HW5:=AA hw5;have HPb:=AA hpb;clear hw5 hpb;go_upto_region 9 with fail
   simp only[←HW5.out,←HPb.out];obtain⟨r,hr⟩:∃r,r=w5.heap.size:=⟨_,rfl⟩;go_wp2_with (at_range;refine C8 _ rfl _ 290 rfl _ _ Tryz.underlying290 m kl rfl hmp5 (Kb []) ?_;intro o6 MO hrg6)
   have hBp6:Blk (w5.alloc o6) pb 261 #[.slice none 0 0]:=hBp.alloc _;have hbw6:Below w.heap.size w (w5.alloc o6):=hbw5'.alloc hbw5'.size _;rw[←hr]at hrg6 ⊢;have hrw:w.heap.size≤r:=by rw[hr];exact hbw5'.size
   have hrp:r≠pb:=by have:=hBp.lt;omega
   generalize w5.alloc o6=w6 at*;have HRg6:=AA hrg6;have HBp6:=AA hBp6;clear hrg6 hBp6 hr hBp hmp5 hbw5' HW5 hbw;go_frame
   go_loopw [43] (fun _ wx=>TC m r pb kl w wx) (fun _ wx=>Iu m r wx)
   case atStart=>exact⟨MO,_,[],HRg6.out,HBp6.out,by have:=HRg6.out.rng.le';simpa using this,fun o ho=>(List.not_mem_nil ho).elim,⟨by simp,.inl ⟨rfl,rfl⟩⟩,hbw6⟩
   case round=>
    obtain⟨cnt,v,L,hrg,hBp,hLc,hL,hown,hbx⟩:=hrel;have HRg:=AA hrg;have HBp:=AA hBp;have HL3:=AA hL;have HOwn:=AA hown;have y2:wr.cell? ⟨pb,0,none⟩=some v:=hBp.cell 0;have hL6:L.length≤1000000:=by omega
    have hrx:r<wr.heap.size:=hrg.rng.lt;have hpx:pb<wr.heap.size:=hBp.lt;have hmx:m<wr.heap.size:=hrg.rng.mlt;clear hrg hBp hL hown HRg6 HBp6;go_wp2_with (at_next;refine DL _ rfl _ rfl m r cnt kl _ rfl HRg.out ?_ ?_)
    ·intro hvis;have HVis:=AA hvis;clear hvis;have HSort:=AA (HMid.out w wr pb v L HOwn.out hbx HBp.out hL6);clear HMid;go_wp2_with fail
     refine HSort.out.mono ?_;rintro en w8 ⟨rfl,hB8,hb8,l8,hp8,hown8⟩;have z1:w8.cell? ⟨pb,0,none⟩=some v:=hB8.cell 0;have HP8:=AA hp8;have HOwn8:=AA hown8;have hll:L.length≤O.length:=by rw[HN.out];omega
     clear hB8 hp8 hown8 HSort y2;go_wp2;go_ret;refine⟨v,l8,rfl,fun x=>(HP8.out.mem_iff).trans ⟨fun hx=>?_,fun hx=>?_⟩,by rw[HP8.out.length_eq];exact hll,HOwn8.out,hb8⟩
     ·obtain⟨u,hu⟩:=HL3.out x hx;exact HAll.out.1 _ hu
     ·obtain⟨u,hu⟩:=HAll.out.2.1 x hx;exact HVis.out x u (EZ x u kl hu)
    ·intro k v1 w1 Eg hmem hrg1 hlt1 hg1 hs1 hen;have HMem:=AA hmem;have hb1:Below w.heap.size w w1:=hbx.grown hg1 hbx.size (fun j hj=>by injection hj with hj;subst hj;exact hrw);have HBp1:Hid (Blk w1 pb 261 #[v]):=HBp.out.kept hg1 (by intro e;injection e with e;exact hrp e.symm);have hnr:v.ownBlock≠some r:=fun e=>(HRg.out.rng.ne_row' HOwn.out).2 e.symm
     have HOwn1E:Hid (w1.ownsRow w.heap.size 258 9 v L.length (L.flatMap vlc)):=BZ HOwn.out hg1 (fun j hj=>by injection hj with hj;subst hj;exact .inr hnr);have HRg1:=AA hrg1;clear hmem hrg1 hg1 y2 hnr;clear hs1;go_upto_region 12 with fail
     obtain⟨w4,hw4⟩:∃w4,w4=w1.alloc (.cells k.cells 258):=⟨_,rfl⟩;rw[←hw4];have HRg4:Hid (Co Vl.val w4 m r kl Eg (fun p=>Kb L p∨p=(k,v1))):=by unfold Hid;rw[hw4];exact HRg1.out.alloc _
     have HBp4:Hid (Blk w4 pb 261 #[v]):=by unfold Hid;rw[hw4];exact HBp1.out.alloc _
     have HOwn4:Hid (w4.ownsRow w.heap.size 258 9 v L.length (L.flatMap vlc)):=by unfold Hid;rw[hw4];exact HOwn1E.out.alloc _
     have hb4:Below w.heap.size w w4:=by rw[hw4];exact hb1.alloc hb1.size _
     have hB4:Blk w4 w1.heap.size 258 k.cells:=by rw[hw4];exact Blk.new w1 _ _
     clear hw4;obtain⟨z,hz⟩:∃z,z=w1.heap.size:=⟨_,rfl⟩;rw[←hz]at hB4 ⊢;have x3:AK w4 z 0 9=some k.cells:=hB4.row 9 rfl;have y4:w4.cell? ⟨pb,0,none⟩=some v:=HBp4.out.cell 0;clear hB4 hz hen HBp1 HOwn1E hb1;try go_frame
     go_wp2_with ((first
      |(refine BP rfl 261 258 (.tmp 48) rfl k.cells rfl Tryz.underlying261 (by kernel_rfl) (by decide) (by decide) ?_)
      |(at_builtin;refine Aq rfl (.tmp 47) (.tmp 49) _ rfl w.heap.size 258 Vl.zero.val 9 16 Tryz.underlying261 RE rfl (by decide) v L.length (L.flatMap vlc) rfl ?r0 (w4.heap.size+1) (some ⟨w4.heap.size,0,none⟩) 1 1 (vlc k) rfl ?r1 ?r2 ?r3 ?r4 ?r5 ?r6 ?_)))
     case r0=>exact HOwn4.out.alloc _
     case r1=>rfl
     case r2=>exact Rd.mk (by omega) (fun j u hu=>by rw[Nat.zero_add,(Blk.new w4 _ _).cell];simpa using hu)
     case r3=>exact fun u hu=>EF k hu
     case r4=>omega
     case r5=>unfold maxLen;omega
     case r6=>have:=hb4.size;simp;omega
     intro v7 w7 hown7 hg7 hat7;have hne7:some pb≠v.ownBlock:=CC HOwn4.out HBp4.out (by decide);have hnn:=HRg4.out.rng.ne_row' HOwn4.out;have HBp7:Hid (Blk w7 pb 261 #[v]):=(HBp4.out.alloc _).kept hg7 hne7;have HRg7:Hid (Co Vl.val w7 m r kl Eg (fun p=>Kb L p∨p=(k,v1))):=(HRg4.out.alloc _).kept hg7 hnn.1 hnn.2;have hb7:Below w.heap.size w w7:=BL (hb4.alloc hb4.size _) (HOwn4.out.alloc _) hg7;have hne8:some pb≠v7.ownBlock:=CC hown7 HBp7.out (by decide);obtain⟨g7,cap7,rfl⟩:=ownsRow_succ hown7;have HOwn7:=AA hown7;have HNe:=AA hne8;have y6:w7.cell? ⟨pb,0,none⟩=some v:=HBp7.out.cell 0;have y7:w7.frozen? ⟨pb,0,none⟩=false:=HBp7.out.frozen 0;clear hown7 hg7 hat7 hne7 hnn hne8 y4 x3;go_wp2;try go_frame
     have HRg8:Hid (Co Vl.val (w7.setCell ⟨pb,0,none⟩ (.slice (some ⟨g7,0,none⟩) (L.length+1) cap7)) m r kl Eg (Kb (L++[k]))):=(HRg7.out.kept (Bi (p:=⟨pb,0,none⟩) (Ai w7 pb) rfl _) (by intro e;injection e with e;exact hmpb e) (by intro e;injection e with e;exact hrp e)).mono (fun p hp=>Kb.snoc hp);go_roundw
     case rel=>
      refine⟨Eg,_,L++[k],HRg8.out,HBp7.out.put 0 _,by rw[AI];simp;omega,?_,?_,hb7.setCell hpw _⟩
      ·intro t ht;rcases AP.1 ht with ht|ht
       ·exact HL3.out t ht
       ·rw[AR.1 ht];exact⟨v1,HMem.out⟩
      ·have h:=BZ HOwn7.out (Bi (p:=⟨pb,0,none⟩) (Ai w7 pb) rfl (.slice (some ⟨g7,0,none⟩) (L.length+1) cap7)) (fun j hj=>by injection hj with hj;subst hj;exact .inr (fun e=>HNe.out e.symm));rw[AI,Ad];simpa using h
     case measure=>rw[HRg8.out.rng.left_eq,HRg.out.rng.left_eq];exact hlt1
end
section
open Go.RowKit
theorem Jh{P:Program}{op:Oper}{a:Act}{w:World}{K:Act→World→Prop}{Q:Exit→Act→World→Prop}(ty:TypeId)(x y:Operand)(ho:op.op= .store ty x y)(g i:Nat)(u:Value)(hx:a.eval x= .pointer (some ⟨g,i,none⟩))(hy:a.eval y=u)(t:TypeId)(cs:Array Value)(hB:Blk w g t cs)(hi:i<cs.size)(hz:(P.info? ty).map (·.size)=some 1)(h1:u.oneCell'=true)(hd:op.dst=none)(h:∀w',w'=w.setCell ⟨g,i,none⟩ u→Blk w' g t (cs.setIfInBounds i u)→w.grownBy w' (some g)→w'.heap.size=w.heap.size→K a w'):op.wp P a w K Q:=by
 obtain⟨ie,hie,hs⟩:=Option.map_eq_some_iff.1 hz;have hrun:=Lib.rl_storeVar_one (P:=P) ty ie hie hs ⟨g,i,none⟩ u cs[i] h1 w (by rw[hB.cell,Array.getElem?_eq_getElem hi]) (hB.frozen i);unfold Oper.wp execOp;simp only[ho,hx,hy,Instr.storeAt,Instr.sureAddr,Sem.run_bind,Sem.run_pure,Result.andThen_ok,hrun];have hK:=h _ rfl (hB.put i u) (Bi (Ai w g) rfl u) (by simp[World.setCell]);have e:a.put op.dst undef=a:=by rw[hd];rfl
 rw[←e]at hK;exact hK
end
section
open Go.RowKit Go.Shelf
attribute [local go_sem ↓] Go.wp_at_zero Go.wp_at_succ An Au Av Aw DK
attribute [local go_sem] BD BH BI BJ EO AN AW AQ
theorem QS{α:Type}{l:List α}{i:Nat}{x:α}(hx:l[i]? =some x):l.take (i+1)=l.take i++[x]:=by
 rw[Ag,hx,BE]
def pW(kd rd:Int)(pr:Vt→Bool)(v:Vt):Bool:=decide (v.kind=kd)&&(decide (v.round=rd)&&pr v)
def QT(b:Bool)(v:Vt)(m:Nat):Nat:=if b=true then m|||2^v.signer.toNat else m
theorem Of:(Tryz.prog.info? 22).map (·.size)=some 1:=by kernel_rfl
theorem QU(kd rd:Int)(pr:Vt→Bool)(bk br bf bm g n0 m:Nat)(lb:Array Value)(W0 W:World)(v:Vt)(hk:Blk W bk 3 #[.int .i64 kd])(hr:Blk W br 3 #[.int .i64 rd])(hf:Blk W bf 110 #[.func (.func g) #[] lb])(hm:Blk W bm 22 #[.int .i64 (m:Int)])(hm10:m<1024)(hF:By n0 W0 g lb pr)(hW:Below n0 W0 W)(hn:n0≤W0.heap.size)(hv:Ae v):Calls Tryz.prog 253 #[v.val,.pointer (some ⟨bk,0,none⟩),.pointer (some ⟨br,0,none⟩),.pointer (some ⟨bf,0,none⟩),.pointer (some ⟨bm,0,none⟩)] W fun e w'=>e= .returned (.tuple #[])∧Blk w' bm 22 #[.int .i64 ((QT (pW kd rd pr v) v m:Nat):Int)]∧W.grownBy w' (some bm):=by
 obtain⟨w1,hw1⟩:∃w1,w1=W.alloc (.cells v.cells 46):=⟨_,rfl⟩;have hb1:Below W.heap.size W w1:=by rw[hw1];exact(AC _ _).alloc (AB _) _
 obtain⟨z,hz⟩:∃z,z=W.heap.size:=⟨_,rfl⟩;have hx1:Blk w1 z 46 v.cells:=by rw[hw1,hz];exact Blk.new W _ _
 have hk1:=hk.below hb1 hk.lt;have hr1:=hr.below hb1 hr.lt;have hf1:=hf.below hb1 hf.lt;have hm1:=hm.below hb1 hm.lt;have y1:w1.cell? ⟨bk,0,none⟩=some (.int .i64 kd):=hk1.cell 0;have y2:w1.cell? ⟨br,0,none⟩=some (.int .i64 rd):=hr1.cell 0;have y3:w1.cell? ⟨bf,0,none⟩=some (.func (.func g) #[] lb):=hf1.cell 0;have x0:w1.cell? ⟨z,0,none⟩=some (.int .i64 v.kind):=hx1.cell 0;have x2:w1.cell? ⟨z,2,none⟩=some (.int .i64 v.round):=hx1.cell 2;have x9:AK w1 z 0 22=some v.cells:=hx1.row 22 rfl;have hgr1:W.grownBy w1 (some bm):=Bm hb1;have HP:Hid (∀V,Below w1.heap.size w1 V→Calls Tryz.prog g (#[v.val]++lb) V (Al V (pr v))):=fun V hV=>hF.tells V (hW.trans ((hb1.trans (hV.mono hb1.size)).mono (AF hn hW.size))) v hv
 have eg:=hF.ent;obtain⟨sn,hsn9,hsn⟩:∃sn:Nat,sn≤9∧v.signer=(sn:Int):=⟨v.signer.toNat,by have:=hv.2.1;omega,by have:=hv.2.1;omega⟩;have hno:pW kd rd pr v=false→QT (pW kd rd pr v) v m=m:=fun h=>by rw[h];rfl
 have hyes:pW kd rd pr v=true→QT (pW kd rd pr v) v m=m|||2^sn:=fun h=>by rw[h,QT,if_pos rfl,hsn];rfl
 obtain⟨k3,hk3⟩:∃k,k=pr v:=⟨_,rfl⟩;rw[←hk3]at HP;obtain⟨t,ht⟩:∃t,t=QT (pW kd rd pr v) v m:=⟨_,rfl⟩;rw[←ht]at hno hyes ⊢;have hpw:pW kd rd pr v=(decide (v.kind=kd)&&(decide (v.round=rd)&&k3)):=by rw[hk3];rfl
 rw[hpw]at hno hyes;have HM:=AA hm1;have HX:=AA hx1;have HG:=AA hgr1;have HW:=AA hw1;have HZ:=AA hz;have HNo:=AA hno;have HYes:=AA hyes;have HSn:=AA hsn;clear hk hr hf hm hF hW hn hv hw1 hz hx1 hk1 hr1 hf1 hm1 hgr1 hno hyes ht hk3 hpw hsn;go_enter Tryz.func253,Tryz.ntmps253;go_upto_region 1 with fail
 simp only[←HW.out,←HZ.out];by_cases h1:v.kind=kd
 ·have e1:(v.kind==kd)=true:=by rw[h1];exact beq_self_eq_true _
  have d1:decide (v.kind=kd)=true:=by simpa using h1
  by_cases h2:v.round=rd
  ·have e2:(v.round==rd)=true:=by rw[h2];exact beq_self_eq_true _
   have d2:decide (v.round=rd)=true:=by simpa using h2
   rw[d1,d2]at HNo HYes;clear h1 h2 d1 d2;go_wp2_with fail
   refine(HP.out _ (AC _ _)).mono ?_;rintro en w2 ⟨rfl,hb2⟩;have HM2:Hid (Blk w2 bm 22 #[.int .i64 (m:Int)]):=HM.out.below hb2 HM.out.lt;have HG2:Hid (W.grownBy w2 (some bm)):=HG.out.trans (Bm hb2);have HZM:Hid (z≠bm):=fun e=>by have h1:=HX.out;have h2:=HM.out;rw[e]at h1;exact absurd (Cd h1 h2) (by decide)
   have HS:Hid (∀V,w2.grownBy V (some bm)→V.cell? ⟨z,4,none⟩=some (.int .i64 (sn:Int))):=fun V hV=>by rw[←HSn.out];exact((HX.out.below hb2 HX.out.lt).kept hV (fun e=>by injection e with e;exact HZM.out e)).cell 4
   have HX2:Hid (Blk w2 z 46 v.cells):=HX.out.below hb2 HX.out.lt;cases k3 with
   |false=>
    have ht:=HNo.out rfl;subst ht;clear HNo HYes HS hb2 y1 y2 y3 x0 x2 x9;go_wp2;go_end0;exact⟨rfl,HM2.out,HG2.out⟩
   |true=>
    have ht:=HYes.out rfl;subst ht;clear HNo HYes hb2 y1 y2 y3 x0 x2 x9;have ym:w2.drew.cell? ⟨bm,0,none⟩=some (.int .i64 (m:Int)):=HM2.out.drew.cell 0;go_wp2_with fail
    refine rgD (fun V=>V.cell? ⟨z,4,none⟩=some (.int .i64 (sn:Int))) (HS.out _ (BX (Ai w2 bm))) fun hHeld=>?_
    refine tkD 22 1 ?_;go_frame;refine tkD 23 2 ?_;go_frame;refine Az (some 24) (i:=3) (v:=(.int .i64 ((2^sn:Nat):Int))) rfl rfl (by kernel_rfl) (by kernel_rfl) (by kernel_rfl) (fun _ _ _ h=>h) (by rfl) (fun wq _=>GW (.tmp 23) sn rfl rfl hsn9 wq) (by assumption) ?_;go_frame;refine rd1 0 fun K hK=>?_
    go_simp;refine hK.out _ _ (HS.out _ (BX (Ai w2 bm))) (fun hHeld=>?_);clear hK K;try go_frame
    refine Az (some 25) (i:=4) (v:=(.int .i64 ((m|||2^sn:Nat):Int))) rfl rfl (by kernel_rfl) (by kernel_rfl) (by kernel_rfl) (fun _ _ _ h=>h) (by rfl) (fun wq _=>GX (.tmp 21) (.tmp 24) m sn rfl rfl rfl hm10 hsn9 wq) (by assumption) ?_;go_frame;refine rd1 5 fun K hK=>?_
    rw[if_pos (by rfl)];refine Jh 22 (.tmp 4) (.tmp 25) (by rfl) bm 0 (.int .i64 ((m|||2^sn:Nat):Int)) (by rfl) (by rfl) 22 _ (HM2.out.drew) (by simp) Of (by rfl) (by rfl) ?_;intro w5 hw5 hR5 hg5 hsz5;refine hK.out _ _ (HS.out _ ((BX (Ai w2 bm)).trans hg5)) (fun hHeld=>?_);clear hK K;try go_frame
    refine dnD ?_;go_wp2_with fail
    go_end0;exact⟨rfl,hR5,(BX HG2.out).trans hg5⟩
  ·have e2:(v.round==rd)=false:=by simpa using h2
   have d2:decide (v.round=rd)=false:=by simpa using h2
   rw[d1,d2]at HNo;have ht:=HNo.out rfl;subst ht;clear h1 h2 d1 d2 HNo HYes;go_wp2;go_end0;exact⟨rfl,HM.out,HG.out⟩
 ·have e1:(v.kind==kd)=false:=by simpa using h1
  have d1:decide (v.kind=kd)=false:=by simpa using h1
  rw[d1]at HNo;have ht:=HNo.out rfl;subst ht;clear h1 d1 HNo HYes;go_wp2;go_end0;exact⟨rfl,HM.out,HG.out⟩
def TD(kd rd:Int)(pr:Vt→Bool)(O:List Vt)(bm:Nat)(w:World)(iv:Value)(wr:World):Prop:=
 ∃i:Nat,iv= .int .i64 (i:Int)∧i≤O.length∧Blk wr bm 22 #[.int .i64 ((Bq (pW kd rd pr) (O.take i):Nat):Int)]∧w.grownBy wr (some bm)
theorem Nj{w:World}{b:Nat}{M q s f:Int}{p:Nm}{A:Option Addr}{c mo:Nat}{O:List Vt}{ow:Int→Int→Bool}(h:EU w b M q s f p A c mo O ow)(hO:∀v∈O,Ae v)(hsm:O.length≤1000000)(kd rd:Int)(pr:Vt→Bool)(g:Nat)(lb:Array Value)(hF:By w.heap.size w g lb pr):Calls Tryz.prog 211 #[.pointer (some ⟨b,0,none⟩),.int .i64 kd,.int .i64 rd,.func (.func g) #[] lb] w fun e w'=>e= .returned (.int .i64 ((Bq (pW kd rd pr) O:Nat):Int))∧Below w.heap.size w w':=by
 obtain⟨w1,hw1⟩:∃w1,w1=w.alloc (.cells #[.int .i64 kd] 3):=⟨_,rfl⟩;obtain⟨w2,hw2⟩:∃w2,w2=w1.alloc (.cells #[.int .i64 rd] 3):=⟨_,rfl⟩;obtain⟨w3,hw3⟩:∃w3,w3=w2.alloc (.cells #[.func (.func g) #[] lb] 110):=⟨_,rfl⟩;obtain⟨w4,hw4⟩:∃w4,w4=w3.alloc (.cells #[.int .i64 0] 22):=⟨_,rfl⟩;have hs1:w1.heap.size=w.heap.size+1:=by rw[hw1];simp
 have hs2:w2.heap.size=w.heap.size+1+1:=by rw[hw2,World.size_alloc,hs1]
 have hs3:w3.heap.size=w.heap.size+1+1+1:=by rw[hw3,World.size_alloc,hs2]
 have hb1:Below w.heap.size w w1:=by rw[hw1];exact(AC _ _).alloc (AB _) _
 have hb2:Below w.heap.size w w2:=by rw[hw2];exact hb1.alloc hb1.size _
 have hb3:Below w.heap.size w w3:=by rw[hw3];exact hb2.alloc hb2.size _
 have hb4:Below w.heap.size w w4:=by rw[hw4];exact hb3.alloc hb3.size _
 obtain⟨bk,hbk⟩:∃g,g=w.heap.size:=⟨_,rfl⟩;obtain⟨br,hbr⟩:∃g,g=w.heap.size+1:=⟨_,rfl⟩;obtain⟨bf,hbf⟩:∃g,g=w.heap.size+1+1:=⟨_,rfl⟩;obtain⟨bm,hbm⟩:∃g,g=w3.heap.size:=⟨_,rfl⟩;have k4:Blk w4 bk 3 #[.int .i64 kd]:=by rw[hw4,hw3,hw2,hw1,hbk];exact(((Blk.new w _ _).alloc _).alloc _).alloc _
 have r4:Blk w4 br 3 #[.int .i64 rd]:=by rw[hw4,hw3,hw2,hbr,←hs1];exact((Blk.new w1 _ _).alloc _).alloc _
 have f4:Blk w4 bf 110 #[.func (.func g) #[] lb]:=by rw[hw4,hw3,hbf,←hs2];exact(Blk.new w2 _ _).alloc _
 have m4:Blk w4 bm 22 #[.int .i64 0]:=by rw[hw4,hbm];exact Blk.new w3 _ _
 have hV4:=h.below hb4;have y1:w4.cell? ⟨b,12,none⟩=some (.slice A O.length c):=hV4.blk.cell 12;have hmw:w.heap.size≤bm:=by omega
 have hkm:bk≠bm:=by omega
 have hrm:br≠bm:=by omega
 have hfm:bf≠bm:=by omega
 have HR:=AA (h.rd);have HO:=AA hO;have HK:=AA k4;have HRr:=AA r4;have HFb:=AA f4;have HM4:=AA m4;have HB4:=AA hb4;have HW1:=AA hw1;have HW2:=AA hw2;have HW3:=AA hw3;have HW4:=AA hw4;have HBk:=AA hbk;have HBr:=AA hbr;have HBf:=AA hbf;have HBm:=AA hbm;have HF:=AA hF;have ent:∀args W,(callFunc 253 args).run Tryz.prog W= .ok (.enter 253 args) W:=enters_of Tryz.func253 (by kernel_rfl) rfl;obtain⟨n,hn⟩:∃n,O.length=n:=⟨_,rfl⟩;rw[hn]at y1 hsm;have HN:=AA hn;clear h hV4 hO hF k4 r4 f4 m4 hb1 hb2 hb3 hb4 hw1 hw2 hw3 hw4 hbk hbr hbf hbm hs1 hs2 hs3 hn;go_enter Tryz.func211,Tryz.ntmps211;go_upto_region 1 with fail
 simp only[←HW1.out,←HW2.out,←HW3.out,←HBf.out];simp only[←HBr.out];go_upto_region 2 with fail
 simp only[←HW4.out,←HBm.out];simp only[←HBk.out];go_wp2
 go_loopw [19] (fun iv wr=>TD kd rd pr O bm w4 iv wr) (fun iv _=>n-(intOf iv).toNat)
 case atStart=>exact⟨0,rfl,Nat.zero_le _,HM4.out,Ai w4 bm⟩
 case round=>
  obtain⟨i,rfl,hin,hbm,hgr⟩:=hrel;rw[HN.out]at hin;obtain⟨m,hm⟩:∃m,m=Bq (pW kd rd pr) (O.take i):=⟨_,rfl⟩;rw[←hm]at hbm;have hm10:m<1024:=by
   rw[hm];exact FV (fun v hv=>(HO.out v (List.mem_of_mem_take hv)).2.1)
  have HMm:=AA hm;have HBm:=AA hbm;have HGr:=AA hgr;clear hm hbm hgr;by_cases hi:i<n
  ·have di:decide ((i:Int)<(n:Int))=true:=by simp;omega
   obtain⟨x,hx⟩:∃x,O[i]? =some x:=⟨_,AE (by rw[HN.out];exact hi)⟩;have hbw:Below w.heap.size w wr:=HB4.out.grown HGr.out HB4.out.size (fun k hk=>by injection hk with hk;subst hk;exact hmw);obtain⟨g0,o,rfl,hb,hcell⟩:=HR.out.cells (by intro e;have:=AX vtc 22 O (B6 O);rw[e,HN.out]at this;simp at this;omega);clear hcell;have x1:AK wr g0 (o+i*22) 22=some x.cells:=(HR.out.below hbw).voteRow hx;have HXx:=AA hx;have HXv:=AA (HO.out x (AM hx));clear hx;go_upto_region 6 with(refine AJ rfl 46 (.tmp 12) (.tmp 22) rfl wr.heap.size x.cells rfl rfl 46 Bk.cells (Blk.new wr _ _) (by rfl) (by kernel_rfl) (fun u hu=>BM x hu) ?_;intro w5 hB5 hg5 hsz5)
   have hbm5:wr.heap.size≠bm:=by have:=HBm.out.lt;omega
   have HM5:Hid (Blk w5 bm 22 #[.int .i64 (m:Int)]):=(HBm.out.alloc _).kept hg5 (by intro e;injection e with e;omega);have HG5:Hid (w4.grownBy w5 (some bm)):=(Bl HGr.out _).andThen hg5 (fun k hk=>by injection hk with hk;subst hk;exact .inl HGr.out.size);have hbw5:Below w.heap.size w w5:=HB4.out.grown HG5.out HB4.out.size (fun k hk=>by injection hk with hk;subst hk;exact hmw);obtain⟨z,hz⟩:∃z,z=wr.heap.size:=⟨_,rfl⟩;rw[←hz]at hB5 ⊢;have x5:AK w5 z 0 22=some x.cells:=hB5.row 22 rfl;have HC:=AA (QU kd rd pr bk br bf bm g w.heap.size m lb w w5 x (HK.out.kept HG5.out (by intro e;injection e with e;exact hkm e)) (HRr.out.kept HG5.out (by intro e;injection e with e;exact hrm e)) (HFb.out.kept HG5.out (by intro e;injection e with e;exact hfm e)) HM5.out hm10 HF.out hbw5 (AB _) HXv.out);clear hB5 hg5 hsz5 hz x1 hbm5;try go_frame
   go_wp2_with fail
   refine HC.out.mono ?_;rintro en w6 ⟨rfl,hM6,hg6⟩;have HM6:=AA hM6;have HG6:Hid (w4.grownBy w6 (some bm)):=HG5.out.trans hg6;clear hM6 hg6 HC x5;go_wp2;go_roundw
   case rel=>
    refine⟨i+1,by go_num,by rw[HN.out];omega,?_,HG6.out⟩;rw[QS HXx.out,FU,←HMm.out];exact HM6.out
   case measure=>simp[intOf];omega
  ·have di:decide ((i:Int)<(n:Int))=false:=by simp;omega
   have hall:m=Bq (pW kd rd pr) O:=by rw[HMm.out,AT (by rw[HN.out];omega)]
   have y2:wr.cell? ⟨bm,0,none⟩=some (.int .i64 (m:Int)):=HBm.out.cell 0;have HAll:=AA hall;clear hall;go_wp2;go_ret;exact⟨by rw[←HAll.out];rfl,HB4.out.grown HGr.out HB4.out.size (fun k hk=>by injection hk with hk;subst hk;exact hmw)⟩
end
end Go.Proofs.YtadllffeoibelaaGreat
