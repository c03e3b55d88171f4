/-
  What these parts of the proof come to, functions walked and plain laws: GmProp, ActP, GInv, GmNil. No condition.
-/
import Derived.Test.YtadllffeoibelaaGreatS41
import Derived.Test.YtadllffeoibelaaGreatS6
import Derived.Test.YtadllffeoibelaaGreatS42
import Derived.Test.YtadllffeoibelaaGreatS11
import Derived.Test.YtadllffeoibelaaGreatS40
namespace Go.Proofs.YtadllffeoibelaaGreat
set_option maxRecDepth 100000
set_option maxHeartbeats 32000000
set_option linter.all false
section
open Go.RowKit
attribute [local go_sem ↓] Go.wp_at_zero Go.wp_at_succ An Au Av Aw
attribute [local go_sem] BD BH BI BJ AN AW AQ
def Dj(D:List Vt):List Nm:=(D.filter fun x=>decide (x.kind=1)).map (·.value)
def Fm(par:Nm)(m:Nat)(D:List Vt):Bool:=D.any fun x=>decide (x.kind=1)&&(decide (x.parent=par)&&(decide (x.signer=(m:Int))&&decide (x.slot=(m:Int))))
theorem Ov(D:List Vt)(x:Vt):Dj (D++[x])=if x.kind=1 then Dj D++[x.value]else Dj D:=by
 unfold Dj;rw[List.filter_append,Ac];by_cases h:x.kind=1 <;> simp[h]
theorem Ow(par:Nm)(m:Nat)(D:List Vt)(x:Vt):Fm par m (D++[x])=(Fm par m D||(decide (x.kind=1)&&(decide (x.parent=par)&&(decide (x.signer=(m:Int))&&decide (x.slot=(m:Int)))))):=by
 unfold Fm;rw[List.any_append];simp
def IR(D:List Vt)(par:Nm)(m:Nat)(w:World)(e:Ending)(w':World):Prop:=
 ∃(v:Value),e= .returned (.tuple #[v,.bool (Fm par m D)])∧w'.ownsRow w.heap.size 24 8 v (Dj D).length ((Dj D).flatMap nmc)∧Below w.heap.size w w'
def TJ(D:List Vt)(par:Nm)(m:Nat)(w:World)(v ov iv:Value)(wr:World):Prop:=
 ∃(i:Nat) (L:List Nm) (d:Bool),iv= .int .i64 (i:Int)∧ov= .bool d∧i≤D.length∧L.length≤i∧L=Dj (D.take i)∧d=Fm par m (D.take i)∧wr.ownsRow w.heap.size 24 8 v L.length (L.flatMap nmc)∧Below w.heap.size w wr
theorem Km{Bs g i0 b:Nat}{w:World}{G:GmS}{P:PrS}(h:A9 Bs w g G)(hi:G.ps[i0]? =some (b,P))(hsm:P.L.length≤1000000):Calls Tryz.prog 73 #[Am g,Am b] w (IR (F7 (P.L.map Sg.vs)) G.par P.mem w):=by
 have hP:=(h.prs _ _ hi).1;have HVs:=AA (F8 hP hsm);have HS:Hid (∀V,Below w.heap.size w V→AK V g 2 8=some G.par.cells∧V.cell? ⟨b,1,none⟩=some (.int .i64 (P.mem:Int))):=fun V hV=>⟨(h.below hV).row_par,((h.below hV).prs _ _ hi).1.blk.cell 1⟩
 obtain⟨D,hD⟩:∃D,D=F7 (P.L.map Sg.vs):=⟨_,rfl⟩;have hD6:D.length≤1000000:=by
  have:=C7 (P.L.map Sg.vs);rw[AY]at this;rw[hD];unfold F7;rw[AY];omega
 rw[←hD]at HVs ⊢;obtain⟨par,hpar⟩:∃par,par=G.par:=⟨_,rfl⟩;obtain⟨mm,hmm⟩:∃mm,mm=P.mem:=⟨_,rfl⟩;rw[←hpar,←hmm]at HS ⊢;clear h hi hP hD hsm hpar hmm;go_enter Tryz.func73,Tryz.ntmps73;go_wp2_with (go_at_call 44;refine HVs.out.mono ?_;rintro en w2 ⟨v2,rfl,hb2,hown2⟩;obtain⟨A2,c2,rfl,hR2⟩:=BY hown2;have HR2:=AA hR2;obtain⟨n,hn⟩:∃n,D.length=n:=⟨_,rfl⟩;rw[hn]at hD6 ⊢;have HN:=AA hn;clear hown2 hR2 hn)
 go_loopw [6,7,15] (fun v ov iv wr=>TJ D par mm w2 v ov iv wr) (fun _ _ iv _=>n-(intOf iv).toNat)
 case atStart=>exact⟨0,[],false,rfl,rfl,Nat.zero_le _,Nat.zero_le _,rfl,rfl,⟨by simp,.inl ⟨rfl,rfl⟩⟩,AC _ _⟩
 case round=>
  obtain⟨i,L,d,rfl,rfl,hin,hLi,hL,hd,hown,hbw⟩:=hrel;rw[HN.out]at hin;have HL:=AA hL;have HDd:=AA hd;have HOwn:=AA hown;have hL6:L.length≤1000000:=by omega
  have hbw0:=hb2.trans (hbw.mono hb2.size);clear hL hd hown;by_cases hi:i<n
  ·have di:decide ((i:Int)<(n:Int))=true:=by simp;omega
   obtain⟨x,hx⟩:∃x,D[i]? =some x:=⟨_,AE (by rw[HN.out];exact hi)⟩;obtain⟨b0,o,rfl,hb,hcell⟩:=HR2.out.cells (by intro e;have:=AX vtc 22 D (B6 D);rw[e,HN.out]at this;simp at this;omega);clear hcell;have x1:AK wr b0 (o+i*22) 22=some x.cells:=(HR2.out.below hbw).voteRow hx;have hNx:Dj (D.take (i+1))=if x.kind=1 then L++[x.value]else L:=by rw[Ag,hx,BE,Ov,←HL.out]
   have hOx:Fm par mm (D.take (i+1))=(d||(decide (x.kind=1)&&(decide (x.parent=par)&&(decide (x.signer=(mm:Int))&&decide (x.slot=(mm:Int)))))):=by rw[Ag,hx,BE,Ow,←HDd.out]
   have HNx:=AA hNx;have HOx:=AA hOx;clear hx hNx hOx;go_upto_region 6 with(refine AJ rfl 46 (.tmp 9) (.tmp 18) rfl wr.heap.size x.cells rfl rfl 46 Bk.cells (Blk.new wr _ _) (by rfl) (by kernel_rfl) (fun u hu=>BM x hu) ?_;intro w4 hB4 hg4 hsz4)
   have HOwn4:Hid (w4.ownsRow w2.heap.size 24 8 u6 L.length (L.flatMap nmc)):=BZ (HOwn.out.alloc _) hg4 (fun k hk=>by
    injection hk with hk
    subst hk;right;intro e;have:=(HOwn.out.lt _ e).2;omega)
   have hbw4:Below w2.heap.size w2 w4:=(hbw.alloc hbw.size _).grown hg4 (AF hbw.size (by simp)) (fun k hk=>by injection hk with hk;subst hk;exact hbw.size);obtain⟨z,hz⟩:∃z,z=wr.heap.size:=⟨_,rfl⟩;rw[←hz]at hB4 ⊢;have x4:w4.cell? ⟨z,0,none⟩=some (.int .i64 x.kind):=hB4.cell 0;have x5:AK w4 z 14 8=some x.value.cells:=x.row_value hB4;have HZ4:=AA hB4;clear hB4 hg4 hsz4 x1 hz HOwn hbw hbw0;try go_frame
   by_cases h1:x.kind=1
   rotate_left
   ·have e1:(x.kind==1)=false:=by simpa using h1
    have HNx':Hid (L=Dj (D.take (i+1))):=by unfold Hid;rw[HNx.out,if_neg h1]
    have HOx':Hid (d=Fm par mm (D.take (i+1))):=by unfold Hid;rw[HOx.out,decide_eq_false h1];simp
    clear h1;go_wp2;go_roundw
    case rel=>exact⟨i+1,L,d,by go_num,rfl,by rw[HN.out];omega,by omega,HNx'.out,HOx'.out,HOwn4.out,hbw4⟩
    case measure=>simp[intOf];omega
   have e1:(x.kind==1)=true:=by rw[h1];rfl
   have HNx':Hid (L++[x.value]=Dj (D.take (i+1))):=by unfold Hid;rw[HNx.out,if_pos h1]
   have HOx':Hid (Fm par mm (D.take (i+1))=(d||(decide (x.parent=par)&&(decide (x.signer=(mm:Int))&&decide (x.slot=(mm:Int)))))):=by unfold Hid;rw[HOx.out,decide_eq_true h1,Bool.true_and]
   clear h1 HNx HOx;go_wp2_with ((first
    |(refine BP rfl 75 24 (.tmp 24) rfl x.value.cells rfl Tryz.underlying75 (by kernel_rfl) (by decide) (by decide) ?_)
    |(at_builtin;refine Aq rfl (.tmp 22) (.tmp 25) _ rfl w2.heap.size 24 (Nm.val ⟨0,0,0,0,0,0,0,0⟩) 8 8 Tryz.underlying75 DQ rfl (by decide) u6 L.length (L.flatMap nmc) rfl ?r0 (w4.heap.size+1) (some ⟨w4.heap.size,0,none⟩) 1 1 (nmc x.value) rfl ?r1 ?r2 ?r3 ?r4 ?r5 ?r6 ?_)))
   case r0=>exact HOwn4.out.alloc _
   case r1=>rfl
   case r2=>exact Rd.mk (by omega) (fun j u hu=>by rw[Nat.zero_add,(Blk.new w4 _ _).cell];simpa using hu)
   case r3=>exact fun u hu=>KZ x.value hu
   case r4=>omega
   case r5=>unfold maxLen;omega
   case r6=>have:=hbw4.size;simp;omega
   intro v7 w7 hown7 hg7 hat7;have hbw7:Below w2.heap.size w2 w7:=BL (hbw4.alloc hbw4.size _) (HOwn4.out.alloc _) hg7;have HZ7:Hid (Blk w7 z 46 x.cells):=(HZ4.out.alloc _).kept hg7 (CC HOwn4.out HZ4.out (by decide));have HOwn7:Hid (w7.ownsRow w2.heap.size 24 8 v7 (L++[x.value]).length ((L++[x.value]).flatMap nmc)):=by
    unfold Hid;rw[AI,Ad];simpa using hown7
   have hbx7:=hb2.trans (hbw7.mono hb2.size);have HX:Hid (AK w7.drew z 6 8=some x.parent.cells∧w7.drew.cell? ⟨z,4,none⟩=some (.int .i64 x.signer)∧w7.drew.cell? ⟨z,1,none⟩=some (.int .i64 x.slot)∧AK w7.drew g 2 8=some par.cells∧w7.drew.cell? ⟨b,1,none⟩=some (.int .i64 (mm:Int))):=
    ⟨x.row_parent HZ7.out,HZ7.out.cell 4,HZ7.out.cell 1,(HS.out _ hbx7).1,(HS.out _ hbx7).2⟩
   have hbd7:Below w2.heap.size w2 w7.drew:=hbw7.drew;have HOd7:Hid (w7.drew.ownsRow w2.heap.size 24 8 v7 (L++[x.value]).length ((L++[x.value]).flatMap nmc)):=HOwn7.out;have hLx:(L++[x.value]).length≤i+1:=by rw[AI,List.length_singleton];omega
   clear hown7 hg7 hat7 x4 x5 HOwn4 HOwn7;obtain⟨dP,hdP⟩:∃d,d=decide (x.parent=par):=⟨_,rfl⟩;obtain⟨dS,hdS⟩:∃d,d=decide (x.signer=(mm:Int)):=⟨_,rfl⟩;obtain⟨dL,hdL⟩:∃d,d=decide (x.slot=(mm:Int)):=⟨_,rfl⟩;have eP:∀W,(Op.equalIn 10000 24 (.agg x.parent.cells) (.agg par.cells)).run Tryz.prog W= .ok dP W:=fun W=>by rw[hdP];exact Dz x.parent par W 9998
   have eS:(x.signer==(mm:Int))=dS:=by rw[hdS];rfl
   have eL:(x.slot==(mm:Int))=dL:=by rw[hdL];rfl
   rw[←hdP,←hdS,←hdL]at HOx';clear hdP hdS hdL;go_upto_region 8 with fail
   cases d with
   |true=>
    refine rgD (fun V=>AK V z 6 8=some x.parent.cells∧V.cell? ⟨z,4,none⟩=some (.int .i64 x.signer)∧V.cell? ⟨z,1,none⟩=some (.int .i64 x.slot)∧AK V g 2 8=some par.cells∧V.cell? ⟨b,1,none⟩=some (.int .i64 (mm:Int))) (HX.out) fun hHeld=>?_
    refine tkD 27 0 ?_;go_frame;refine tkD 28 1 ?_;go_frame;refine skD 29 2 ?_;go_frame;refine skD 30 3 ?_;go_frame;refine skD 31 4 ?_;go_frame;refine skD 32 5 ?_;go_frame;refine skD 33 6 ?_;go_frame;refine skD 34 7 ?_;go_frame;refine skD 35 8 ?_;go_frame;refine skD 36 9 ?_;go_frame;refine skD 37 10 ?_;go_frame;refine skD 38 11 ?_;go_frame;refine skD 39 12 ?_;go_frame;refine skD 40 13 ?_;go_frame;refine skD 41 14 ?_;go_frame;refine skD 42 15 ?_;go_frame;refine skD 43 16 ?_;go_frame;refine skD 44 17 ?_;go_frame;refine skD 45 18 ?_;go_frame;refine skD 46 19 ?_;go_frame;refine skD 47 20 ?_;go_frame;refine skD 48 21 ?_;go_frame;refine skD 49 22 ?_;go_frame;refine skD 50 23 ?_;go_frame;refine skD 51 24 ?_;go_frame;refine skD 52 25 ?_;go_frame;refine skD 53 26 ?_;go_frame;refine tkD 54 27 ?_;go_frame;refine tkD 7 28 ?_;go_frame;refine dnD ?_;go_wp2;go_roundw
    case rel=>exact⟨i+1,_,true,by go_num,rfl,by rw[HN.out];omega,hLx,HNx'.out,by rw[HOx'.out];simp,HOd7.out,hbd7⟩
    case measure=>simp[intOf];omega
   |false=>
    cases dP with
    |false=>
     refine rgD (fun V=>AK V z 6 8=some x.parent.cells∧V.cell? ⟨z,4,none⟩=some (.int .i64 x.signer)∧V.cell? ⟨z,1,none⟩=some (.int .i64 x.slot)∧AK V g 2 8=some par.cells∧V.cell? ⟨b,1,none⟩=some (.int .i64 (mm:Int))) (HX.out) fun hHeld=>?_
     refine tkD 27 0 ?_;go_frame;refine tkD 28 1 ?_;go_frame;refine tkD 29 2 ?_;go_frame;refine tkD 30 3 ?_;go_frame;refine tkD 31 4 ?_;go_frame;refine tkD 32 5 ?_;go_frame;refine tkD 33 6 ?_;go_frame;refine tkD 34 7 ?_;go_frame;refine tkD 35 8 ?_;go_frame;refine tkD 36 9 ?_;go_frame;refine skD 37 10 ?_;go_frame;refine skD 38 11 ?_;go_frame;refine skD 39 12 ?_;go_frame;refine skD 40 13 ?_;go_frame;refine skD 41 14 ?_;go_frame;refine skD 42 15 ?_;go_frame;refine skD 43 16 ?_;go_frame;refine tkD 44 17 ?_;go_frame;refine tkD 45 18 ?_;go_frame;refine skD 46 19 ?_;go_frame;refine skD 47 20 ?_;go_frame;refine skD 48 21 ?_;go_frame;refine skD 49 22 ?_;go_frame;refine skD 50 23 ?_;go_frame;refine skD 51 24 ?_;go_frame;refine skD 52 25 ?_;go_frame;refine tkD 53 26 ?_;go_frame;refine tkD 54 27 ?_;go_frame;refine tkD 7 28 ?_;go_frame;refine dnD ?_;go_wp2;go_roundw
     case rel=>exact⟨i+1,_,false,by go_num,rfl,by rw[HN.out];omega,hLx,HNx'.out,by rw[HOx'.out];simp,HOd7.out,hbd7⟩
     case measure=>simp[intOf];omega
    |true=>
     cases dS with
     |false=>
      refine rgD (fun V=>AK V z 6 8=some x.parent.cells∧V.cell? ⟨z,4,none⟩=some (.int .i64 x.signer)∧V.cell? ⟨z,1,none⟩=some (.int .i64 x.slot)∧AK V g 2 8=some par.cells∧V.cell? ⟨b,1,none⟩=some (.int .i64 (mm:Int))) (HX.out) fun hHeld=>?_
      refine tkD 27 0 ?_;go_frame;refine tkD 28 1 ?_;go_frame;refine tkD 29 2 ?_;go_frame;refine tkD 30 3 ?_;go_frame;refine tkD 31 4 ?_;go_frame;refine tkD 32 5 ?_;go_frame;refine tkD 33 6 ?_;go_frame;refine tkD 34 7 ?_;go_frame;refine tkD 35 8 ?_;go_frame;refine tkD 36 9 ?_;go_frame;refine tkD 37 10 ?_;go_frame;refine tkD 38 11 ?_;go_frame;refine tkD 39 12 ?_;go_frame;refine tkD 40 13 ?_;go_frame;refine tkD 41 14 ?_;go_frame;refine tkD 42 15 ?_;go_frame;refine tkD 43 16 ?_;go_frame;refine tkD 44 17 ?_;go_frame;refine tkD 45 18 ?_;go_frame;refine skD 46 19 ?_;go_frame;refine skD 47 20 ?_;go_frame;refine skD 48 21 ?_;go_frame;refine skD 49 22 ?_;go_frame;refine skD 50 23 ?_;go_frame;refine skD 51 24 ?_;go_frame;refine skD 52 25 ?_;go_frame;refine tkD 53 26 ?_;go_frame;refine tkD 54 27 ?_;go_frame;refine tkD 7 28 ?_;go_frame;refine dnD ?_;go_wp2;go_roundw
      case rel=>exact⟨i+1,_,false,by go_num,rfl,by rw[HN.out];omega,hLx,HNx'.out,by rw[HOx'.out];simp,HOd7.out,hbd7⟩
      case measure=>simp[intOf];omega
     |true=>
      refine rgD (fun V=>AK V z 6 8=some x.parent.cells∧V.cell? ⟨z,4,none⟩=some (.int .i64 x.signer)∧V.cell? ⟨z,1,none⟩=some (.int .i64 x.slot)∧AK V g 2 8=some par.cells∧V.cell? ⟨b,1,none⟩=some (.int .i64 (mm:Int))) (HX.out) fun hHeld=>?_
      refine tkD 27 0 ?_;go_frame;refine tkD 28 1 ?_;go_frame;refine tkD 29 2 ?_;go_frame;refine tkD 30 3 ?_;go_frame;refine tkD 31 4 ?_;go_frame;refine tkD 32 5 ?_;go_frame;refine tkD 33 6 ?_;go_frame;refine tkD 34 7 ?_;go_frame;refine tkD 35 8 ?_;go_frame;refine tkD 36 9 ?_;go_frame;refine tkD 37 10 ?_;go_frame;refine tkD 38 11 ?_;go_frame;refine tkD 39 12 ?_;go_frame;refine tkD 40 13 ?_;go_frame;refine tkD 41 14 ?_;go_frame;refine tkD 42 15 ?_;go_frame;refine tkD 43 16 ?_;go_frame;refine tkD 44 17 ?_;go_frame;refine tkD 45 18 ?_;go_frame;refine tkD 46 19 ?_;go_frame;refine tkD 47 20 ?_;go_frame;refine tkD 48 21 ?_;go_frame;refine tkD 49 22 ?_;go_frame;refine tkD 50 23 ?_;go_frame;refine tkD 51 24 ?_;go_frame;refine tkD 52 25 ?_;go_frame;refine tkD 53 26 ?_;go_frame;refine tkD 54 27 ?_;go_frame;refine tkD 7 28 ?_;go_frame;refine dnD ?_;go_wp2;go_roundw
      case rel=>exact⟨i+1,_,dL,by go_num,rfl,by rw[HN.out];omega,hLx,HNx'.out,by rw[HOx'.out];simp,HOd7.out,hbd7⟩
      case measure=>simp[intOf];omega
  ·have di:decide ((i:Int)<(n:Int))=false:=by simp;omega
   have hLa:L=Dj D:=by rw[HL.out,AT (by rw[HN.out];omega)]
   have hDa:d=Fm par mm D:=by rw[HDd.out,AT (by rw[HN.out];omega)]
   have HLa:=AA hLa;have HDa:=AA hDa;clear hLa hDa HL HDd;go_wp2;go_ret2;exact⟨u6,by first|rfl|(rw[HDa.out];rfl)|simp[HDa.out],by rw[←HLa.out];exact BF HOwn.out hb2.size,hbw0⟩
end
section

abbrev PrS.D(P:PrS):List Vt:=F7 (P.L.map Sg.vs)
abbrev Lw(par:Nm)(mem:Nat)(pay:Nm):Vt:=⟨1,(mem:Int),0,1,(mem:Int),0,par,pay⟩
abbrev GmS.actd(G:GmS)(i b:Nat)(P:PrS):GmS:=G.setP i b {P with acts:=P.acts+1}
def Lx(i:Nat)(v:Vt)(G G':GmS):Prop:=∃(b:Nat) (P:PrS) (k:KyS) (sv0:Value) (sl:List Vt) (va vs:Value) (L:List Sg),
 G.ps[i]? =some (b,P)∧G.ks[P.mem]? =some k∧G.sg[P.mem]? =some (sv0,sl)∧(Ae v∧P.leaf<1024)∧L.map Sg.vs=CD (P.L.map Sg.vs++[(v,EI k.seed P.leaf (DZ v))])∧G'=(G.setP i b (P.signd va L)).setS P.mem vs (sl++[v])
def M1(i:Nat)(G:GmS)(o:Option Vt):Prop:=∃(b:Nat) (P:PrS),G.ps[i]? =some (b,P)∧DP G.M G.par (P.mem:Int) P.D (Dj P.D) (decide (2<P.acts)) o
structure Ep (i b m0:Nat)(a0:Int)(p0:Nm)(M0:Int)(y0:Nm)(ks0:List KyS)(c:Nat)(G:GmS)(P:PrS):Prop where
 hi:G.ps[i]? =some (b,P)
 mem:P.mem=m0
 acts:P.acts=a0
 pay:P.pay=y0
 par:G.par=p0
 M:G.M=M0
 ks:G.ks=ks0
 sg:∃x:Value×List Vt,G.sg[m0]? =some x∧x.2.length≤c+P.leaf
 len:P.L.length≤c+P.leaf
 val:∀x∈P.L,Ae x.vote
 lf:P.leaf≤1024
theorem DB(l:List VS)(x:Vt):x∈F7 l↔x∈l.map (·.1):=by
 unfold F7;rw[List.mem_map,List.mem_map];constructor
 ·rintro⟨y,hy,rfl⟩;exact⟨y,(DT l).sub y hy,rfl⟩
 ·rintro⟨y,hy,rfl⟩;obtain⟨z,hz,e,_⟩:=(DT l).dom y hy;exact⟨z,hz,e⟩
theorem PrS.D_valid{P:PrS}(h:∀x∈P.L,Ae x.vote):∀v∈P.D,Ae v:=fun v hv=>by
 have:=(DB (P.L.map Sg.vs) v).1 hv;simp only[List.map_map,List.mem_map,Function.comp_apply]at this;obtain⟨x,hx,rfl⟩:=this;exact h x hx
theorem DP.due{M:Int}{p:Nm}{f:Int}{l:List Vt}{H:List Nm}{wt:Bool}{v:Vt}(hl:∀v∈l,Ae v)(h:DP M p f l H wt (some v)):∃s,s≤9∧Og s p f (owF s p f l) v:=by
 obtain⟨s,hs,_,h⟩:=h;exact⟨s,hs,h.due hl hs⟩
theorem Lx.actK{i b mem c:Nat}{acts M:Int}{par pay:Nm}{ks:List KyS}{G G':GmS}{P:PrS}{v:Vt}(h:Lx i v G G')(k:Ep i b mem acts par M pay ks c G P):∃P',Ep i b mem acts par M pay ks c G' P'∧P'.leaf=P.leaf+1∧P.leaf<1024:=by
 obtain⟨b',P0,k0,sv0,sl,va,vs,L,h1,h2,h3,h4,h5,rfl⟩:=h;rw[k.hi]at h1;injection h1 with h1
 injection h1 with h1 h1'
 subst h1;subst h1';have hil:=(AG.1 k.hi).1;have hml:=(AG.1 h3).1;have hlen:L.length=(L.map Sg.vs).length:=by rw[AY]
 have hcl:=C7 (P.L.map Sg.vs++[(v,EI k0.seed P.leaf (DZ v))]);rw[AI,AY]at hcl;refine⟨P.signd va L,⟨List.getElem?_set_self hil,k.mem,k.acts,k.pay,k.par,k.M,k.ks,?_,?_,fun x hx=>?_,by have:=h4.2;show P.leaf+1≤1024;omega⟩,rfl,h4.2⟩
 ·obtain⟨x,hx,hx2⟩:=k.sg;rw[←k.mem,h3]at hx;injection hx with hx
  subst hx;refine⟨(vs,sl++[v]),by rw[←k.mem];exact List.getElem?_set_self hml,?_⟩;show(sl++[v]).length≤c+(P.leaf+1);have:sl.length≤c+P.leaf:=hx2;simp;omega
 ·show L.length≤c+(P.leaf+1);rw[hlen,h5];have:=k.len;simp at hcl;omega
 ·have hm:x.vs∈L.map Sg.vs:=List.mem_map_of_mem hx;rw[h5]at hm;have:=(DT _).sub _ hm;rcases AP.1 this with h|h
  ·obtain⟨y,hy,he⟩:=List.mem_map.1 h;have:y.vote=x.vote:=congrArg Prod.fst he;exact this▸k.val y hy
  ·have:x.vote=v:=congrArg Prod.fst (AR.1 h);exact this▸h4.1

def SY(u v:Vt):Prop:=u.kind=v.kind∧u.slot=v.slot∧u.round=v.round∧u.signer=v.signer∧u.parent=v.parent
abbrev GmS.hb(G:GmS)(m:Nat):Bool:=(xOf G.hon).testBit m
def JH(ks:List KyS)(sg:List (Value×List Vt))(x:VS):Prop:=Ae x.1∧∃(m:Nat) (y:Value×List Vt) (k:KyS) (l:Nat),x.1.signer=(m:Int)∧sg[m]? =some y∧x.1∈y.2∧ks[m]? =some k∧l<1024∧x.2=EI k.seed l (DZ x.1)
structure JI (n T:Nat)(G:GmS):Prop where
 n1:1≤n∧n≤10
 kn:G.ks.length=n
 sgn:G.sg.length=n
 psn:n≤G.ps.length∧G.ps.length≤2*n
 mem:∀(i b:Nat) (P:PrS),G.ps[i]? =some (b,P)→P.mem<n∧(i<n→P.mem=i)∧(n≤i→G.hb P.mem=false)
 leaf:∀(i b:Nat) (P:PrS),G.ps[i]? =some (b,P)→P.leaf≤1024∧0≤P.acts∧P.acts≤T
 can:∀(i b:Nat) (P:PrS),G.ps[i]? =some (b,P)→CD (P.L.map Sg.vs)=P.L.map Sg.vs
 held:∀(i b:Nat) (P:PrS),G.ps[i]? =some (b,P)→∀x∈P.L,JH G.ks G.sg x.vs
 sgd:∀(m:Nat) (y:Value×List Vt),G.sg[m]? =some y→∀v∈y.2,Ae v∧v.signer=(m:Int)
 keep:∀(m b:Nat) (P:PrS) (y:Value×List Vt),G.hb m=true→G.ps[m]? =some (b,P)→G.sg[m]? =some y→∀v∈y.2,v∈P.D
 uniq:∀(m:Nat) (y:Value×List Vt),G.hb m=true→G.sg[m]? =some y→∀u∈y.2,∀v∈y.2,SY u v→u=v
 cnt:(G.sg.map fun y=>y.2.length).sum≤(G.ps.map fun p=>p.2.leaf).sum+T
theorem PrS.mem_D{P:PrS}{v:Vt}:v∈P.D↔∃x∈P.L,x.vote=v:=by
 rw[DB,List.map_map,List.mem_map];rfl
theorem F9{α:Type}(f:α→Nat)(c:Nat):∀l:List α,(∀x∈l,f x≤c)→(l.map f).sum≤l.length*c
 |[],_=>by simp
 |a::l,h=>by
  have:=F9 f c l (fun x hx=>h x (List.mem_cons_of_mem _ hx));have h1:=h a BB;simp only[List.map_cons,List.sum_cons,Af,Nat.add_mul];omega
theorem JJ:∀(l:List Nat) (x:Nat),x∈l→x≤l.sum
 |[],x,h=>by cases h
 |a::l,x,h=>by
  rw[List.sum_cons];rcases List.mem_cons.1 h with rfl|h
  ·omega
  ·have:=JJ l x h;omega
theorem IS{α:Type}(f:α→Nat):∀(l:List α) (i:Nat) (x y:α),l[i]? =some x→((l.set i y).map f).sum+f x=(l.map f).sum+f y
 |[],i,x,y,h=>by simp at h
 |a::l,0,x,y,h=>by simp at h;subst h;simp;omega
 |a::l,i+1,x,y,h=>by
  have:=IS f l i x y (by simpa using h);simp only[List.set_cons_succ,List.map_cons,List.sum_cons];omega
theorem JK:∀(c:List VS) (s:List Vt),DS c→(∀x∈c,x.1∈s)→c.length≤s.length
 |[],_,_,_=>by simp
 |a::c,s,hc,hs=>by
  have hc':c.Pairwise (fun x y=>Bg x.1 y.1=true)∧∀y∈c,Bg a.1 y.1=true:=by
   have:=List.pairwise_cons.1 hc;exact⟨this.2,this.1⟩
  have ha:=hs a BB;have h1:=JK c (s.erase a.1) hc'.1 (fun x hx=>by
   refine(List.mem_erase_of_ne ?_).2 (hs x (List.mem_cons_of_mem _ hx));intro e;have:=hc'.2 x hx;rw[e,CT]at this;cases this)
  have h2:=List.length_erase_of_mem ha;have h3:=List.length_pos_of_mem ha;simp only[Af];omega
theorem Ly{α β:Type}(f:α→List β):∀l:List α,(l.flatMap f).length=(l.map fun x=>(f x).length).sum
 |[]=>rfl
 |a::l=>by simp[Ly f l]
section
variable {n T:Nat}{G G':GmS}
theorem JI.len(h:JI n T G){i b:Nat}{P:PrS}(hi:G.ps[i]? =some (b,P)):P.L.length≤20480+T:=by
 have hc:(P.L.map Sg.vs).length≤(G.sg.flatMap fun y=>y.2).length:=JK _ _ (by rw[←h.can i b P hi];exact(DT _).asc) (fun x hx=>by
  obtain⟨s,hs,rfl⟩:=List.mem_map.1 hx;obtain⟨_,m,y,k,l,_,h2,h3,_⟩:=h.held i b P hi s hs;exact List.mem_flatMap.2 ⟨y,AM h2,h3⟩)
 rw[AY,Ly]at hc;have h1:=h.cnt;have h2:=F9 (fun p:Nat×PrS=>p.2.leaf) 1024 G.ps (fun p hp=>by
  obtain⟨j,hj⟩:=List.getElem?_of_mem hp;exact(h.leaf j p.1 p.2 hj).1)
 have h3:=h.psn.2;have h4:=h.n1.2;omega
theorem JI.slen(h:JI n T G){m:Nat}{y:Value×List Vt}(hm:G.sg[m]? =some y):y.2.length≤20480+T:=by
 have h0:y.2.length≤(G.sg.map fun y=>y.2.length).sum:=JJ _ _ (List.mem_map.2 ⟨y,AM hm,rfl⟩);have h1:=h.cnt;have h2:=F9 (fun p:Nat×PrS=>p.2.leaf) 1024 G.ps (fun p hp=>by
  obtain⟨j,hj⟩:=List.getElem?_of_mem hp;exact(h.leaf j p.1 p.2 hj).1)
 have h3:=h.psn.2;have h4:=h.n1.2;omega
theorem JI.share{T':Nat}(h:JI n T G)(hT:T≤T')(hks:G'.ks=G.ks)(hh:G'.hon=G.hon)(hsg:G'.sg=G.sg)(hps:G'.ps.length=G.ps.length)(hp:∀(i b:Nat) (P':PrS),G'.ps[i]? =some (b,P')→∃(b0:Nat) (P:PrS),G.ps[i]? =some (b0,P)∧P'.mem=P.mem∧P'.leaf=P.leaf∧0≤P'.acts∧P'.acts≤T'∧CD (P'.L.map Sg.vs)=P'.L.map Sg.vs∧(∀v∈P.D,v∈P'.D)∧∀x∈P'.L,JH G.ks G.sg x.vs):JI n T' G':=by
 have hb:G'.hb=G.hb:=by unfold GmS.hb;rw[hh]
 refine⟨h.n1,by rw[hks];exact h.kn,by rw[hsg];exact h.sgn,by rw[hps];exact h.psn,?_,?_,?_,?_,by rw[hsg];exact h.sgd,?_,by rw[hsg,hb];exact h.uniq,?_⟩
 ·intro i b P' hi;obtain⟨b0,P,h1,h2,_⟩:=hp i b P' hi;rw[h2,hb];exact h.mem i b0 P h1
 ·intro i b P' hi;obtain⟨b0,P,h1,h2,h3,h4,h5,_⟩:=hp i b P' hi;exact⟨by rw[h3];exact(h.leaf i b0 P h1).1,h4,h5⟩
 ·intro i b P' hi;obtain⟨b0,P,h1,h2,h3,h4,h5,h6,_⟩:=hp i b P' hi;exact h6
 ·intro i b P' hi x hx;obtain⟨b0,P,h1,h2,h3,h4,h5,h6,h7,h8⟩:=hp i b P' hi;rw[hks,hsg];exact h8 x hx
 ·intro m b P' y hm hi hy v hv;obtain⟨b0,P,h1,h2,h3,h4,h5,h6,h7,h8⟩:=hp m b P' hi;rw[hsg]at hy;rw[hb]at hm;exact h7 v (h.keep m b0 P y hm h1 hy v hv)
 ·rw[hsg];have e:(G'.ps.map fun p=>p.2.leaf)=G.ps.map fun p=>p.2.leaf:=by
   apply List.ext_getElem?;intro i;rw[AU,AU];rcases hi:G'.ps[i]? with _|⟨b,P'⟩
   ·have hl:=List.getElem?_eq_none_iff.1 hi;rw[hps]at hl;rw[List.getElem?_eq_none_iff.2 hl]
   ·obtain⟨b0,P,h1,h2,h3,_⟩:=hp i b P' hi;rw[h1];show some P'.leaf=some P.leaf;rw[h3]
  rw[e];have:=h.cnt;omega
def Nu(P:PrS)(v:Vt):Prop:=∀u∈P.D,¬SY u v
theorem Hg(l:List VS):CD (CD l)=CD l:=Ez (by
 rw[Id];intro i x y hx hy;have:=List.pairwise_iff_getElem.1 (DT l).asc i (i+1) (AG.1 hx).1 (AG.1 hy).1 (by omega);rw[(AG.1 hx).2,(AG.1 hy).2]at this;exact this)
theorem JH.more{ks:List KyS}{sg:List (Value×List Vt)}{m:Nat}{y:Value×List Vt}{u:Value}{v:Vt}{x:VS}(h:JH ks sg x)(hm:sg[m]? =some y):JH ks (sg.set m (u,y.2++[v])) x:=by
 obtain⟨h0,m',y',k,l,h1,h2,h3,h4⟩:=h;refine⟨h0,m',if m=m' then(u,y.2++[v])else y',k,l,h1,?_,?_,h4⟩
 ·rw[List.getElem?_set];by_cases e:m=m'
  ·rw[if_pos e,if_pos e,if_pos (AG.1 hm).1]
  ·rw[if_neg e,if_neg e,h2]
 ·by_cases e:m=m'
  ·subst e;rw[hm]at h2;injection h2 with h2
   subst h2;rw[if_pos rfl];exact BS _ h3
  ·rw[if_neg e];exact h3
theorem JI.sgn'{i:Nat}{v:Vt}(h:JI n T G)(hs:Lx i v G G')(hf:∀(b:Nat) (P:PrS),G.ps[i]? =some (b,P)→v.signer=(P.mem:Int)∧Nu P v):JI n T G':=by
 obtain⟨b,P,k,sv0,sl,va,vs,L,h1,h2,h3,h4,h5,rfl⟩:=hs;obtain⟨f1,f2⟩:=hf b P h1;have hil:=(AG.1 h1).1;have hml:=(AG.1 h3).1;have hmm:=h.mem i b P h1
 --what the process holds
 have hLsub:∀x∈L,x.vs∈P.L.map Sg.vs∨x.vs=(v,EI k.seed P.leaf (DZ v)):=fun x hx=>by
  have hm:x.vs∈L.map Sg.vs:=List.mem_map_of_mem hx;rw[h5]at hm;rcases AP.1 ((DT _).sub _ hm)with h|h
  ·exact .inl h
  ·exact .inr (AR.1 h)
 have hDP:∀u,u∈(P.signd va L).D↔(u∈P.D∨u=v):=fun u=>by
  show u∈F7 (L.map Sg.vs)↔_;rw[DB,h5,show(List.map (fun x:VS=>x.1) (CD (P.L.map Sg.vs++[(v,EI k.seed P.leaf (DZ v))])))=F7 (P.L.map Sg.vs++[(v,EI k.seed P.leaf (DZ v))])from rfl,DB,Ac,AP];show _↔(u∈F7 _∨_);rw[DB];simp
 have get:∀{j b':Nat} {P':PrS},(G.ps.set i (b,P.signd va L))[j]? =some (b',P')→(i=j∧b'=b∧P'=P.signd va L)∨(i≠j∧G.ps[j]? =some (b',P')):=fun hj=>by
  rcases Bv hj with⟨e,e'⟩|h
  ·injection e' with e1 e2
   exact .inl ⟨e,e1,e2⟩
  ·exact .inr h
 refine⟨h.n1,h.kn,by show(G.sg.set _ _).length=n;rw[List.length_set];exact h.sgn,by show n≤(G.ps.set _ _).length∧(G.ps.set _ _).length≤_;rw[List.length_set];exact h.psn,?_,?_,?_,?_,?_,?_,?_,?_⟩
 ·intro j b' P' hj;rcases get hj with⟨rfl,rfl,rfl⟩|⟨_,hj⟩
  ·exact hmm
  ·exact h.mem j b' P' hj
 ·intro j b' P' hj;rcases get hj with⟨rfl,rfl,rfl⟩|⟨_,hj⟩
  ·have:=h.leaf i b' P h1;exact⟨by show P.leaf+1≤1024;have:=h4.2;omega,this.2⟩
  ·exact h.leaf j b' P' hj
 ·intro j b' P' hj;rcases get hj with⟨rfl,rfl,rfl⟩|⟨_,hj⟩
  ·show CD (L.map Sg.vs)=L.map Sg.vs;rw[h5,Hg]
  ·exact h.can j b' P' hj
 ·intro j b' P' hj x hx;show JH G.ks (G.sg.set P.mem (vs,sl++[v])) x.vs;rcases get hj with⟨rfl,rfl,rfl⟩|⟨_,hj⟩
  ·rcases hLsub x hx with h'|h'
   ·obtain⟨y,hy,e⟩:=List.mem_map.1 h';rw[←e];exact(h.held i b' P h1 y hy).more h3
   ·rw[h'];exact⟨h4.1,P.mem,(vs,sl++[v]),k,P.leaf,f1,List.getElem?_set_self hml,BU _ (AR.2 rfl),h2,h4.2,rfl⟩
  ·exact(h.held j b' P' hj x hx).more h3
 ·intro m y hm u hu;rcases Bv hm with⟨rfl,rfl⟩|⟨_,hm⟩
  ·rcases AP.1 hu with hu|hu
   ·exact h.sgd _ _ h3 u hu
   ·rw[AR.1 hu];exact⟨h4.1,f1⟩
  ·exact h.sgd m y hm u hu
 ·intro m b' P' y hm hj hy u hu;rcases get hj with⟨rfl,rfl,rfl⟩|⟨hne,hj⟩
  ·rw[hDP];have hmi:P.mem=i:=hmm.2.1 (by
    have:=(AG.1 hy).1;rw[show(G.setP i b' (P.signd va L)).setS P.mem vs (sl++[v])={G with ps:=G.ps.set i (b',P.signd va L),sg:=G.sg.set P.mem (vs,sl++[v])}from rfl]at this;simp only[List.length_set]at this;rw[h.sgn]at this;exact this)
   rcases Bv hy with⟨e,rfl⟩|⟨e,hy⟩
   ·rcases AP.1 hu with hu|hu
    ·rw[←hmi]at hm h1;exact .inl (h.keep P.mem b' P _ hm h1 h3 u hu)
    ·exact .inr (AR.1 hu)
   ·exact absurd hmi e
  ·rcases Bv hy with⟨rfl,rfl⟩|⟨e,hy⟩
   ·--another process of an honest member:there is none
    exfalso;have hin:¬i<n:=fun hi=>hne (by have:=hmm.2.1 hi;omega)
    have:=hmm.2.2 (by omega);rw[show G.hb P.mem=true from hm]at this;cases this
   ·exact h.keep m b' P' y hm hj hy u hu
 ·intro m y hm hy u hu u' hu' hk;rcases Bv hy with⟨rfl,rfl⟩|⟨e,hy⟩
  ·have hin:i<n:=by
    rcases Nat.lt_or_ge i n with hi|hi
    ·exact hi
    ·have:=hmm.2.2 hi;rw[show G.hb P.mem=true from hm]at this;cases this
   have hmi:=hmm.2.1 hin;have hold:∀u∈sl,u∈P.D:=fun u hu=>h.keep P.mem b P _ hm (by rw[hmi];exact h1) h3 u hu
   rcases AP.1 hu with hu|hu
   ·rcases AP.1 hu' with hu'|hu'
    ·exact h.uniq P.mem _ hm h3 u hu u' hu' hk
    ·rw[AR.1 hu']at hk;exact absurd hk (f2 u (hold u hu))
   ·rcases AP.1 hu' with hu'|hu'
    ·rw[AR.1 hu]at hk;obtain⟨a1,a2,a3,a4,a5⟩:=hk;exact absurd ⟨a1.symm,a2.symm,a3.symm,a4.symm,a5.symm⟩ (f2 u' (hold u' hu'))
    ·rw[AR.1 hu,AR.1 hu']
  ·exact h.uniq m y hm hy u hu u' hu' hk
 ·have e1:=IS (fun y:Value×List Vt=>y.2.length) G.sg P.mem _ (vs,sl++[v]) h3;have e2:=IS (fun p:Nat×PrS=>p.2.leaf) G.ps i _ (b,P.signd va L) h1;have:=h.cnt;show((G.sg.set P.mem (vs,sl++[v])).map fun y=>y.2.length).sum≤((G.ps.set i (b,P.signd va L)).map fun p=>p.2.leaf).sum+T;simp only[AI,List.length_singleton]at e1;have e3:(b,P.signd va L).2.leaf=(b,P).2.leaf+1:=rfl;omega
end
end
section
open Go.RowKit
attribute [local go_sem ↓] Go.wp_at_zero Go.wp_at_succ An Au Av Aw
attribute [local go_sem] BD BH BI BJ AN AW AQ
structure Stp where
 kind:Int
 process:Int
 procs:Int
 vote:Vt
abbrev Stp.cells(s:Stp):Array Value:=#[I s.kind,I s.process,I s.procs,I s.vote.kind,I s.vote.slot,I s.vote.round,I s.vote.choice,I s.vote.signer,I s.vote.support,
 B s.vote.parent.b0,B s.vote.parent.b1,B s.vote.parent.b2,B s.vote.parent.b3,B s.vote.parent.b4,B s.vote.parent.b5,B s.vote.parent.b6,B s.vote.parent.b7,
 B s.vote.value.b0,B s.vote.value.b1,B s.vote.value.b2,B s.vote.value.b3,B s.vote.value.b4,B s.vote.value.b5,B s.vote.value.b6,B s.vote.value.b7]
abbrev Stp.val(s:Stp):Value:=.agg s.cells
theorem Stp.row_vote{w:World}{g t:Nat}(s:Stp)(h:Blk w g t s.cells):AK w g 3 22=some s.vote.cells:=
 Blk.part h 3 s.vote.cells (fun j u hu=>by
  have hj:j<22:=(Aa.1 hu).1;rcases(by omega:j=0∨j=1∨j=2∨j=3∨j=4∨j=5∨j=6∨j=7∨j=8∨j=9∨j=10∨j=11∨j=12∨j=13∨j=14∨j=15∨j=16∨j=17∨j=18∨j=19∨j=20∨j=21)with rfl|rfl|rfl|rfl|rfl|rfl|rfl|rfl|rfl|rfl|rfl|rfl|rfl|rfl|rfl|rfl|rfl|rfl|rfl|rfl|rfl|rfl <;> exact hu)
end
end Go.Proofs.YtadllffeoibelaaGreat
