/-
  What these parts of the proof come to, functions walked and plain laws: Nm1, BrA. No condition.
-/
import Derived.Test.YtadllffeoibelaaGreatS27
import Derived.Test.YtadllffeoibelaaGreatS31
import Derived.Test.YtadllffeoibelaaGreatS4
import Derived.Test.YtadllffeoibelaaGreatS6
import Derived.Deep.DeepCutAuto
namespace Go.Proofs.YtadllffeoibelaaGreat
set_option maxRecDepth 100000
set_option maxHeartbeats 32000000
set_option linter.all false
section
open Go.RowKit
attribute [local go_sem ↓] Go.wp_at_zero Go.wp_at_succ An Au Av Aw
attribute [local go_sem] BD BH BI BJ AN AW AQ
theorem KZ{u:Value}(k:Nm)(h:u∈nmc k):u.oneCell'=true:=by
 simp at h;rcases h with rfl|rfl|rfl|rfl|rfl|rfl|rfl|rfl <;> rfl
theorem Bx.nm{T:List Value}{w0 W:World}{g i:Nat}{l:List Nm}{x:Nm}(h:Bx ⟨nmc,T⟩ 24 w0 g l W)(hx:l[i]? =some x):AK W g (i*8) 8=some x.cells:=by
 refine Bo (fun j u hu=>?_) rfl;have:=D3 (c:=⟨nmc,T⟩) (m:=8) (fun _=>rfl) h.blk i j x u hx (by simpa using hu);rwa[Nat.zero_add]at this
theorem Oe(T:List Value)(B g n c:Nat)(l0:List Nm)(w0:World)(hB:Blk w0 B 75 #[.slice (some ⟨g,0,none⟩) n c])(hne:B≠g)(hn:l0.length=n):Fr ⟨nmc,T⟩ 24 w0 g l0 DJ 276 #[.pointer (some ⟨B,0,none⟩)]:=by
 intro W l i j x y hr hp hx hy;have hi:i<n:=by rw[←hn,←hp.length_eq];exact(AG.1 hx).1
 have hj:j<n:=by rw[←hn,←hp.length_eq];exact(AG.1 hy).1
 have hc0:W.cell? ⟨B,0,none⟩=some (.slice (some ⟨g,0,none⟩) n c):=(hr.box hB hne).cell 0;have HRows:Hid (∀V,Below W.heap.size W V→V.cell? ⟨B,0,none⟩=some (.slice (some ⟨g,0,none⟩) n c)∧AK V g (i*8) 8=some x.cells∧AK V g (j*8) 8=some y.cells):=
  fun V hV=>⟨(hV.cell (p:=⟨B,0,none⟩) (hr.box hB hne).lt).trans hc0,Ay (hr.nm hx) hV hr.blk.lt,Ay (hr.nm hy) hV hr.blk.lt⟩
 have HL:Hid (∀V,Below W.heap.size W V→Calls Tryz.prog 158 #[x.val,y.val] V (Al V (DJ x y))):=
  fun V hV=>Ee x y V
 obtain⟨r,hrr⟩:∃r,r=DJ x y:=⟨_,rfl⟩;rw[←hrr]at HL ⊢;clear hrr hc0 hr hp hx hy hB hn;have hbw:Below W.heap.size W W:=AC _ _;show Calls Tryz.prog 276 #[.int .i64 (i:Int),.int .i64 (j:Int),.pointer (some ⟨B,0,none⟩)] W _;go_enter Tryz.func276,Tryz.ntmps276;go_upto_region 1 with fail
 refine rgD (fun w'=>w'.cell? ⟨B,0,none⟩=some (.slice (some ⟨g,0,none⟩) n c)∧AK w' g (i*8) 8=some x.cells∧AK w' g (j*8) 8=some y.cells) (HRows.out _ hbw.drew) fun hHeld=>?_
 refine tkD 6 0 ?_;go_frame;refine tkD 7 1 ?_;go_frame;refine tkD 8 2 ?_;go_frame;refine tkD 9 3 ?_;go_frame;refine tkD 10 4 ?_;go_frame;refine tkD 11 5 ?_;go_frame;refine tkD 12 6 ?_;go_frame;refine tkD 13 7 ?_;go_frame;refine rd1 8 fun K hK=>?_
 go_simp;refine(HL.out _ hbw.drew).mono ?_;rintro en w2 ⟨rfl,hb2⟩;have hbw2:=hbw.drew.trans (hb2.mono hbw.size);go_wp2_with fail
 refine hK.out _ _ (HRows.out _ hbw2) (fun hHeld=>?_);clear hK K;try go_frame
 refine tkD 5 9 ?_;go_frame;refine dnD ?_;go_wp2;go_ret;exact⟨rfl,hbw2⟩
instance:Inhabited Nm:=⟨Nm.zero⟩
noncomputable def nmT:TypeInfo:=(Tryz.prog.info? 75).get (by kernel_rfl)
noncomputable def nmE:TypeInfo:=(Tryz.prog.info? 24).get (by kernel_rfl)
theorem Ty(n:Nat)(h:2≤n):Lib.swapperK n nmE 17=5:=by
 have a:nmE.hasPointers=false:=by kernel_rfl
 have b:nmE.bytes=8:=by kernel_rfl
 have c0:(n==0)=false:=by simp;omega
 have c1:(n==1)=false:=by simp;omega
 unfold Lib.swapperK;rw[a,b,c0,c1];rfl
theorem QR:SlK 75 24 8 17 5 174:=
 ⟨⟨nmT,by kernel_rfl,by kernel_rfl⟩,by kernel_rfl,⟨nmE,by kernel_rfl,by kernel_rfl,Ty⟩,by omega,by kernel_rfl,fun _=>by kernel_rfl,fun _=>by kernel_rfl,
  ⟨true,fun args W=>run_callFunc_extern Tryz.func174 (by kernel_rfl) (by kernel_rfl) (by kernel_rfl) (e:=Extern.ReflectliteSwapper.swap true) (by kernel_rfl) args W⟩⟩
theorem Mz(args:Array Value)(W:World):(callFunc 276 args).run Tryz.prog W= .ok (.enter 276 args) W:=enters_of Tryz.func276 (by kernel_rfl) rfl args W
def Tz(D:List Nm)(w:World)(pb:Nat)(v:Value)(e:Ending)(w3:World):Prop:=
 e= .returned (.tuple #[])∧Blk w3 pb 75 #[v]∧Below w.heap.size w w3∧∃(l3:List Nm),l3.Perm D∧w3.ownsRow w.heap.size 24 8 v l3.length (l3.flatMap nmc)
theorem S9(w W:World)(pb:Nat)(v:Value)(D:List Nm)(hown:W.ownsRow w.heap.size 24 8 v D.length (D.flatMap nmc))(hb:Below w.heap.size w W)(hpb:Blk W pb 75 #[v])(hsm:D.length≤1000000):Calls Tryz.prog 116 #[.iface 75 v,.func (.func 276) #[] #[.pointer (some ⟨pb,0,none⟩)]] W (Tz D w pb v):=by
 rcases Ha hown with⟨rfl,h0,_⟩|⟨g,cap,T,rfl,hg,hblk,hcap,hcap2,hlen⟩
 ·refine(My QR 0 W).mono ?_;rintro e w3 ⟨rfl,hb3⟩;have hD:D=[]:=AV h0;subst hD;exact⟨rfl,hpb.below hb3 hpb.lt,hb.trans (hb3.mono hb.size),[],List.Perm.refl _,by simp,.inl ⟨rfl,rfl⟩⟩
 ·have hne:pb≠g:=by
   intro e;subst e;unfold Blk at hpb hblk;rw[hpb]at hblk;injection hblk with hh
   injection hh with _ ht
   exact absurd ht (by decide)
  refine(Mx QR ⟨nmc,T⟩ (fun _=>rfl) (by decide) (fun x v hv=>KZ x hv) (fun args W=>Mz args W) D g D.length cap W (Oe T pb g D.length cap D W hpb hne rfl) hblk rfl hsm).mono ?_;rintro e w3 ⟨rfl,l3,hr3,hp3⟩;have hl3:=hp3.length_eq;have f3:=AX nmc 8 l3 (Cb l3);have fD:=AX nmc 8 D (Cb D);refine⟨rfl,hr3.box hpb hne,hb.grown hr3.kept hb.size (fun k hk=>by injection hk with hk;subst hk;exact hg),l3,hp3,f3,.inr ⟨g,cap,_,by rw[hl3],hg,hr3.blk,by rw[hl3];exact hcap,hcap2,?_,?_⟩⟩
  ·show(l3.flatMap nmc++T).length=_;rw[AI,f3,←hlen,fD,hl3]
  ·show(l3.flatMap nmc++T).take (l3.length*8)=_;rw[←f3,List.take_left]
end
section
open Go.RowKit Go.Shelf
attribute [local go_sem ↓] Go.wp_at_zero Go.wp_at_succ An Au Av Aw
attribute [local go_sem] BD BH BI BJ AN AW AQ
theorem Rng.le'{κ:Type}{enc:κ→Value}{w:World}{m r cnt:Nat}{l:List (κ×Value)}(h:Rng enc w m r l cnt):cnt≤l.length:=by
 obtain⟨es,c,s,c0,seen,_,_,h3,_,_,_,_,h8⟩:=h;rw[h8];unfold leftOf;have h4:=congrArg List.length h3;simp only[AY,Array.length_toList]at h4;rw[←h4];exact Array.size_filter_le
theorem Rng.ne_row'{κ:Type}{enc:κ→Value}{w:World}{m r cnt base n size:Nat}{e:TypeId}{v:Value}{xs:List Value}{l:List (κ×Value)}(h:Rng enc w m r l cnt)(ho:w.ownsRow base e size v n xs):some m≠v.ownBlock∧some r≠v.ownBlock:=by
 obtain⟨es,c,s,c0,seen,h1,h2,_⟩:=h;rcases ho.2 with⟨rfl,_⟩|⟨g,cap,cur,rfl,_,hh,_⟩
 ·exact⟨by simp[Value.ownBlock],by simp[Value.ownBlock]⟩
 ·refine⟨fun he=>?_,fun he=>?_⟩
  ·have:m=g:=by simpa[Value.ownBlock]using he
   subst this;rw[h1]at hh;cases hh
  ·have:r=g:=by simpa[Value.ownBlock]using he
   subst this;rw[h2]at hh;cases hh
def Ka(kd:Int)(n:Nat)(O:List Vt)(L:List Nm):Prop:=∀k,k∈L↔¬k=Nm.zero∧n≤At (Bq (pK kd k) O) 10
def F5(n:Nat)(L:List Nm)(p:Nm×Value):Prop:=p.1∈L∨p.1=Nm.zero∨∀S:Nat,p.2= .int .i64 (S:Int)→At (xOf (S:Int)) 10<n
theorem F5.snoc{n:Nat}{L:List Nm}{k:Nm}{v:Value}{p:Nm×Value}(h:F5 n L p∨p=(k,v)):F5 n (L++[k]) p:=by
 rcases h with h|rfl
 ·exact h.imp (fun h=>BS _ h) id
 ·exact .inl (BU _ (AR.2 rfl))
theorem F5.skip{n:Nat}{L:List Nm}{k:Nm}{S:Nat}{p:Nm×Value}(hq:k=Nm.zero∨At (xOf (S:Int)) 10<n)(h:F5 n L p∨p=(k,.int .i64 (S:Int))):F5 n L p:=by
 rcases h with h|rfl
 ·exact h
 ·rcases hq with hq|hq
  ·exact .inr (.inl hq)
  ·refine .inr (.inr (fun S' hS'=>?_));simp only[Value.int.injEq,true_and]at hS';have:S=S':=by omega
   rw[←this];exact hq
theorem Ka.of{kd:Int}{n:Nat}{O:List Vt}{kl:List (Nm×Value)}{L:List Nm}(hO:∀v∈O,0≤v.signer∧v.signer≤9)(hn:1≤n)(h:BrB kd O kl)(hv:∀p∈kl,F5 n L p)(hL:∀k∈L,¬k=Nm.zero∧n≤At (Bq (pK kd k) O) 10):Ka kd n O L:=by
 refine fun k=>⟨hL k,fun⟨h0,hk⟩=>?_⟩
 have hS:=h.1 k;rcases ha:BR k kl with _|v
 ·rw[ha,Option.getD_none]at hS;simp only[Value.int.injEq,true_and]at hS;have:Bq (pK kd k) O=0:=by omega
  rw[this]at hk;have:At 0 10=0:=by decide
  omega
 ·rw[ha,Option.getD_some]at hS;rcases hv (k,v) (EZ k v kl ha)with h1|h1|h1
  ·exact h1
  ·exact absurd h1 h0
  ·have:=h1 _ hS;rw[FT _ (FV hO)]at this;omega
def Ro(kd:Int)(n:Nat)(O:List Vt)(w:World)(e:Ending)(w':World):Prop:=
 ∃(v:Value) (L:List Nm),e= .returned v∧Ka kd n O L∧L.length≤O.length∧w'.ownsRow w.heap.size 24 8 v L.length (L.flatMap nmc)∧Below w.heap.size w w'
def TA(kd:Int)(n:Nat)(O:List Vt)(m r pb:Nat)(kl:List (Nm×Value))(w:World)(wr:World):Prop:=
 ∃(cnt:Nat) (v:Value) (L:List Nm),Co Nm.val wr m r kl cnt (F5 n L)∧Blk wr pb 75 #[v]∧L.length+cnt≤kl.length∧(∀k∈L,¬k=Nm.zero∧n≤At (Bq (pK kd k) O) 10)∧wr.ownsRow w.heap.size 24 8 v L.length (L.flatMap nmc)∧Below w.heap.size w wr
theorem Lh(kd:Int)(n:Nat)(O:List Vt)(m:Nat)(kl:List (Nm×Value))(wb:World)(hO:∀v∈O,0≤v.signer∧v.signer≤9)(hO6:O.length≤1000000)(hn:1≤n)(hbr:BrB kd O kl)(hmp:Bh Nm.val wb m kl):Calls Tryz.prog 249 #[.map (some m),.int .i64 (n:Int)] wb (Ro kd n O wb):=by
 have hkl6:kl.length≤1000000:=by have:=hbr.2.2;omega
 have hklO:=hbr.2.2;have HSz:Hid (∀X W,Calls Tryz.prog 15 #[.int .i64 X] W fun e w'=>e= .returned (.int .i64 ((At (xOf X) 10:Nat):Int))∧w'=W):=fun X W=>CU X W
 have HMid:=AA (fun W W' pb v D h1 h2 h3 h4=>S9 W W' pb v D h1 h2 h3 h4);have HOs:=AA hO;have HBr:=AA hbr;have HN1:=AA hn;obtain⟨pb,hpb⟩:∃pb,pb=wb.heap.size:=⟨_,rfl⟩;obtain⟨w5,hw5⟩:∃w5,w5=wb.alloc (.cells #[.slice none 0 0] 75):=⟨_,rfl⟩;have hBp:Blk w5 pb 75 #[.slice none 0 0]:=by rw[hw5,hpb];exact Blk.new wb _ _
 have hmp5:Bh Nm.val w5 m kl:=by rw[hw5];exact hmp.alloc _
 have hbw5':Below wb.heap.size wb w5:=by rw[hw5];exact(AC _ _).alloc (AB _) _
 have hmw:m<wb.heap.size:=hmp.is.lt;have HW5:=AA hw5;have HPb:=AA hpb;have hpw:wb.heap.size≤pb:=by omega
 clear hw5 hpb hO hbr hn hmp;go_enter Tryz.func249,Tryz.ntmps249;go_upto_region 2 with fail
 simp only[←HW5.out,←HPb.out];obtain⟨r,hr⟩:∃r,r=w5.heap.size:=⟨_,rfl⟩;go_wp2_with (at_range;refine C8 _ rfl _ 288 rfl _ _ Tryz.underlying288 m kl rfl hmp5 (F5 n []) ?_;intro o6 MO hrg6)
 have hBp6:Blk (w5.alloc o6) pb 75 #[.slice none 0 0]:=hBp.alloc _;have hbw6:Below wb.heap.size wb (w5.alloc o6):=hbw5'.alloc hbw5'.size _;rw[←hr]at hrg6 ⊢;have hrw:wb.heap.size≤r:=by rw[hr];exact hbw5'.size
 have hrp:r≠pb:=by have:=hBp.lt;omega
 have hmr:m≠r:=by omega
 have hmpb:m≠pb:=by omega
 generalize w5.alloc o6=w6 at*;have HRg6:=AA hrg6;have HBp6:=AA hBp6;clear hrg6 hBp6 hr hBp hmp5 hbw5' HW5;go_frame
 go_loopw [10] (fun _ wx=>TA kd n O m r pb kl wb wx) (fun _ wx=>Iu m r wx)
 case atStart=>exact⟨MO,_,[],HRg6.out,HBp6.out,by have:=HRg6.out.rng.le';simpa using this,fun o ho=>(List.not_mem_nil ho).elim,⟨by simp,.inl ⟨rfl,rfl⟩⟩,hbw6⟩
 case round=>
  obtain⟨cnt,v,L,hrg,hBp,hLc,hL,hown,hbx⟩:=hrel;have HRg:=AA hrg;have HBp:=AA hBp;have HL3:=AA hL;have HOwn:=AA hown;have y1:wr.cell? ⟨pb,0,none⟩=some v:=hBp.cell 0;have hL6:L.length≤1000000:=by omega
  have hrx:r<wr.heap.size:=hrg.rng.lt;have hpx:pb<wr.heap.size:=hBp.lt;have hmx:m<wr.heap.size:=hrg.rng.mlt;clear hrg hBp hL hown HRg6 HBp6;go_wp2_with (at_next;refine DL _ rfl _ rfl m r cnt kl _ rfl HRg.out ?_ ?_)
  ·intro hvis;have HVis:=AA hvis;clear hvis;have HSort:=AA (HMid.out wb wr pb v L HOwn.out hbx HBp.out hL6);clear HMid;go_wp2_with fail
   refine HSort.out.mono ?_;rintro en w8 ⟨rfl,hB8,hb8,l8,hp8,hown8⟩;have z1:w8.cell? ⟨pb,0,none⟩=some v:=hB8.cell 0;have HP8:=AA hp8;have HOwn8:=AA hown8;have hll:L.length≤O.length:=by omega
   clear hB8 hp8 hown8 HSort y1;go_wp2;go_ret;have hA:=Ka.of HOs.out HN1.out HBr.out (fun pp hpp=>HVis.out pp.1 pp.2 hpp) HL3.out;exact⟨v,l8,rfl,fun k=>(HP8.out.mem_iff).trans (hA k),by rw[HP8.out.length_eq];exact hll,HOwn8.out,hb8⟩
  ·intro k v1 w1 Eg hmem hrg1 hlt1 hg1 hs1 hen;obtain⟨S,hv1,hS10,hSb⟩:=HBr.out.2.1 (k,v1) hmem;simp only at hv1 hSb;subst hv1;have HSb:=AA hSb;have hb1:Below wb.heap.size wb w1:=hbx.grown hg1 hbx.size (fun j hj=>by injection hj with hj;subst hj;exact hrw);have HBp1:Hid (Blk w1 pb 75 #[v]):=HBp.out.kept hg1 (by intro e;injection e with e;exact hrp e.symm);have hnr:v.ownBlock≠some r:=fun e=>(HRg.out.rng.ne_row' HOwn.out).2 e.symm
   have HOwn1E:Hid (w1.ownsRow wb.heap.size 24 8 v L.length (L.flatMap nmc)):=BZ HOwn.out hg1 (fun j hj=>by injection hj with hj;subst hj;exact .inr hnr);have HRg1:=AA hrg1;have hr1:r<w1.heap.size:=hrg1.rng.lt;have hm1:m<w1.heap.size:=hrg1.rng.mlt;have hp1:pb<w1.heap.size:=HBp1.out.lt;clear hmem hrg1 hg1 y1 hnr hSb;clear hs1;go_upto_region 5 with fail
   obtain⟨w4,hw4⟩:∃w4,w4=w1.alloc (.cells k.cells 24):=⟨_,rfl⟩;rw[←hw4];have HRg4:Hid (Co Nm.val w4 m r kl Eg (fun p=>F5 n L p∨p=(k,.int .i64 (S:Int)))):=by unfold Hid;rw[hw4];exact HRg1.out.alloc _
   have HBp4:Hid (Blk w4 pb 75 #[v]):=by unfold Hid;rw[hw4];exact HBp1.out.alloc _
   have HOwn4:Hid (w4.ownsRow wb.heap.size 24 8 v L.length (L.flatMap nmc)):=by unfold Hid;rw[hw4];exact HOwn1E.out.alloc _
   have hb4:Below wb.heap.size wb w4:=by rw[hw4];exact hb1.alloc hb1.size _
   have hB4:Blk w4 w1.heap.size 24 k.cells:=by rw[hw4];exact Blk.new w1 _ _
   clear hw4;obtain⟨z,hz⟩:∃z,z=w1.heap.size:=⟨_,rfl⟩;rw[←hz]at hB4 ⊢;have x3:AK w4 z 0 8=some k.cells:=hB4.row 8 rfl;have y4:w4.cell? ⟨pb,0,none⟩=some v:=HBp4.out.cell 0;clear hB4 hz hen HBp1 HOwn1E hb1;obtain⟨a,ha⟩:∃a,a=At (xOf (S:Int)) 10:=⟨_,rfl⟩;have HSzS:Hid (∀W,Calls Tryz.prog 15 #[.int .i64 (S:Int)] W fun e w'=>e= .returned (.int .i64 (a:Int))∧w'=W):=fun W=>by rw[ha];exact HSz.out _ W
   have HA:=AA ha;clear ha;try go_frame
   by_cases h0:k=Nm.zero
   ·have e0:∀W,(Op.equalIn 10000 24 (.agg k.cells) (.agg #[.int .u8 0,.int .u8 0,.int .u8 0,.int .u8 0,.int .u8 0,.int .u8 0,.int .u8 0,.int .u8 0])).run Tryz.prog W= .ok true W:=fun W=>by
     have h:=H5 k W;rwa[decide_eq_true h0]at h
    have H0:=AA h0;clear h0;go_wp2;go_roundw
    case rel=>exact⟨Eg,v,L,HRg4.out.mono (fun p hp=>F5.skip (.inl H0.out) hp),HBp4.out,by omega,HL3.out,HOwn4.out,hb4⟩
    case measure=>rw[HRg4.out.rng.left_eq,HRg.out.rng.left_eq];exact hlt1
   have e0:∀W,(Op.equalIn 10000 24 (.agg k.cells) (.agg #[.int .u8 0,.int .u8 0,.int .u8 0,.int .u8 0,.int .u8 0,.int .u8 0,.int .u8 0,.int .u8 0])).run Tryz.prog W= .ok false W:=fun W=>by
    have h:=H5 k W;rwa[decide_eq_false h0]at h
   have H0:=AA h0;clear h0;by_cases hq:n≤a
   ·have dq:decide ((n:Int)≤(a:Int))=true:=by simp;omega
    go_wp2_with fail
    refine(HSzS.out _).mono ?_;rintro en w5' ⟨rfl,hw5'⟩;replace hw5':=hw5'.symm;subst hw5';have hok:¬k=Nm.zero∧n≤At (Bq (pK kd k) O) 10:=⟨H0.out,by
     have h:=Dl (a:=S) (b:=Bq (pK kd k) O) (fun i _ hi=>HSb.out i hi) 10 (AB _);have h2:=HA.out;rw[FT S hS10]at h2;omega⟩
    have HOk:=AA hok;clear hok;go_wp2_with ((first
     |(refine BP rfl 75 24 (.tmp 25) rfl k.cells rfl Tryz.underlying75 (by kernel_rfl) (by decide) (by decide) ?_)
     |(at_builtin;refine Aq rfl (.tmp 24) (.tmp 26) _ rfl wb.heap.size 24 (Nm.val ⟨0,0,0,0,0,0,0,0⟩) 8 8 Tryz.underlying75 DQ rfl (by decide) v L.length (L.flatMap nmc) rfl ?r0 (w4.heap.size+1) (some ⟨w4.heap.size,0,none⟩) 1 1 (nmc k) rfl ?r1 ?r2 ?r3 ?r4 ?r5 ?r6 ?_)))
    case r0=>exact HOwn4.out.alloc _
    case r1=>rfl
    case r2=>exact Rd.mk (by omega) (fun j u hu=>by rw[Nat.zero_add,(Blk.new w4 _ _).cell];simpa using hu)
    case r3=>exact fun u hu=>KZ k hu
    case r4=>omega
    case r5=>unfold maxLen;omega
    case r6=>have:=hb4.size;simp;omega
    intro v7 w7 hown7 hg7 hat7;have hne7:some pb≠v.ownBlock:=CC HOwn4.out HBp4.out (by decide);have hnn:=HRg4.out.rng.ne_row' HOwn4.out;have HBp7:Hid (Blk w7 pb 75 #[v]):=(HBp4.out.alloc _).kept hg7 hne7;have HRg7:Hid (Co Nm.val w7 m r kl Eg (fun p=>F5 n L p∨p=(k,.int .i64 (S:Int)))):=(HRg4.out.alloc _).kept hg7 hnn.1 hnn.2;have hb7:Below wb.heap.size wb w7:=BL (hb4.alloc hb4.size _) (HOwn4.out.alloc _) hg7;have hne8:some pb≠v7.ownBlock:=CC hown7 HBp7.out (by decide);obtain⟨g7,cap7,rfl⟩:=ownsRow_succ hown7;have HOwn7:=AA hown7;have HNe:=AA hne8;have y6:w7.cell? ⟨pb,0,none⟩=some v:=HBp7.out.cell 0;have y7:w7.frozen? ⟨pb,0,none⟩=false:=HBp7.out.frozen 0;clear hown7 hg7 hat7 hne7 hnn hne8 y4 x3;go_wp2;try go_frame
    have HRg8:Hid (Co Nm.val (w7.setCell ⟨pb,0,none⟩ (.slice (some ⟨g7,0,none⟩) (L.length+1) cap7)) m r kl Eg (F5 n (L++[k]))):=(HRg7.out.kept (Bi (p:=⟨pb,0,none⟩) (Ai w7 pb) rfl _) (by intro e;injection e with e;exact hmpb e) (by intro e;injection e with e;exact hrp e)).mono (fun p hp=>F5.snoc hp);go_roundw
    case rel=>
     refine⟨Eg,_,L++[k],HRg8.out,HBp7.out.put 0 _,by rw[AI];simp;omega,?_,?_,hb7.setCell hpw _⟩
     ·intro t ht;rcases AP.1 ht with ht|ht
      ·exact HL3.out t ht
      ·rw[AR.1 ht];exact HOk.out
     ·have h:=BZ HOwn7.out (Bi (p:=⟨pb,0,none⟩) (Ai w7 pb) rfl (.slice (some ⟨g7,0,none⟩) (L.length+1) cap7)) (fun j hj=>by injection hj with hj;subst hj;exact .inr (fun e=>HNe.out e.symm));rw[AI,Ad];simpa using h
    case measure=>rw[HRg8.out.rng.left_eq,HRg.out.rng.left_eq];exact hlt1
   ·have dq:decide ((n:Int)≤(a:Int))=false:=by simp;omega
    go_wp2_with fail
    refine(HSzS.out _).mono ?_;rintro en w5' ⟨rfl,hw5'⟩;replace hw5':=hw5'.symm;subst hw5';go_wp2;go_roundw
    case rel=>exact⟨Eg,v,L,HRg4.out.mono (fun p hp=>F5.skip (.inr (by rw[←HA.out];omega)) hp),HBp4.out,by omega,HL3.out,HOwn4.out,hb4⟩
    case measure=>rw[HRg4.out.rng.left_eq,HRg.out.rng.left_eq];exact hlt1
end
end Go.Proofs.YtadllffeoibelaaGreat
