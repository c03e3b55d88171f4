/-
  What these parts of the proof come to, functions walked and plain laws: GmSign. No condition.
-/
import Derived.Test.YtadllffeoibelaaGreatS41
import Derived.Test.YtadllffeoibelaaGreatS33
import Derived.Deep.DeepCutAuto
import Derived.Test.YtadllffeoibelaaGreatS6
namespace Go.Proofs.YtadllffeoibelaaGreat
set_option maxRecDepth 100000
set_option maxHeartbeats 32000000
set_option linter.all false
section
open Go.RowKit
attribute [local go_sem ↓] Go.wp_at_zero Go.wp_at_succ An Au Av Aw
attribute [local go_sem] BD BH BI BJ AN AW AQ
theorem Gf:(Tryz.prog.info? 56).map (·.size)=some 1:=by kernel_rfl
theorem CF{w:World}{base e n i:Nat}{v u:Value}{xs:List Value}(h:w.ownsRow base e 1 v n xs)(hx:xs[i]? =some u):∃kb c,v= .slice (some ⟨kb,0,none⟩) n c∧w.cell? ⟨kb,i,none⟩=some u∧(∃cs,Blk w kb e cs)∧i<n:=by
 have hi:=(AG.1 hx).1;rcases h.2 with⟨_,h0⟩|⟨g,cap,cur,hv,h1,h2,h3,h4,h5,h6⟩
 ·have:=h.1;rw[h0]at this;omega
 ·have hin:i<n:=by have:=h.1;omega
  refine⟨g,cap,hv,?_,⟨cur,h2⟩,hin⟩;rw[Blk.cell (show Blk w g e cur from h2),←hx,←h6,Bf,if_pos (by omega)];simp
theorem EB{o:Oper}{a:Act}{w:World}(x:Operand)(ho:o.op= .load 56 x)(g i:Nat)(hx:a.eval x= .pointer (some ⟨g,i,none⟩))(u:Value)(hc:w.cell? ⟨g,i,none⟩=some u):(execOp a.eval o).run Tryz.prog w= .ok (.value u) w:=by
 unfold execOp;rw[ho];simp only[hx];go_simp
theorem Bw{op:Oper}{a:Act}{w:World}{K:Act→World→Prop}{Q:Exit→Act→World→Prop}{ty:TypeId}(x y:Operand)(ho:op.op= .store ty x y)(g i:Nat)(u:Value)(hx:a.eval x= .pointer (some ⟨g,i,none⟩))(hy:a.eval y=u)(hB:(∃u0,w.cell? ⟨g,i,none⟩=some u0)∧w.frozen? ⟨g,i,none⟩=false)(hz:(Tryz.prog.info? ty).map (·.size)=some 1)(h1:u.oneCell'=true)(hd:op.dst=none)(h:K a (w.setCell ⟨g,i,none⟩ u)):op.wp Tryz.prog a w K Q:=by
 obtain⟨ie,hie,hs⟩:=Option.map_eq_some_iff.1 hz;obtain⟨⟨u0,hu⟩,hf⟩:=hB;have hrun:=Lib.rl_storeVar_one (P:=Tryz.prog) ty ie hie hs ⟨g,i,none⟩ u u0 h1 w hu hf;unfold Oper.wp execOp;simp only[ho,hx,hy,Instr.storeAt,Instr.sureAddr,Sem.run_bind,Sem.run_pure,Result.andThen_ok,hrun];have e:a.put op.dst undef=a:=by rw[hd];rfl
 rw[←e]at h;exact h
theorem Fe{w:World}(v:Value):w.grownBy w.drew v.ownBlock:=⟨rfl,rfl,rfl,AB _,fun _ _ _=>rfl⟩
theorem Eb{w:World}(v:Value)(o:Obj):w.grownBy (w.drew.alloc o) v.ownBlock:=by
 have h:w.grownBy (w.drew.alloc o) (some w.heap.size):=Bm ((AC w.heap.size w).drew.alloc (AB _) o);exact⟨h.os,h.tape,h.output,h.size,fun i hi _=>h.block i hi (fun e=>by injection e with e;omega)⟩
theorem IQ{w w7 w8:World}{row:Option Nat}(hb:Below w.heap.size w w7)(hg:w7.grownBy w8 row):w.grownBy w8 row:=⟨hg.os.trans hb.os,hg.tape.trans hb.tape,hg.output.trans hb.output,AF hb.size hg.size,fun i hi hne=>(hg.block i (Nat.lt_of_lt_of_le hi hb.size) hne).trans (hb.block i hi)⟩
theorem UD{v:Vt}(h:Ae v):v.ok:=⟨by have:=h.2.2.2.1;omega,by have:=h.2.2.2.1;omega⟩
def SwG(base:Nat)(v:Vt)(sig:List UInt8)(ok:Bool)(cs:Array Value)(w:World):Prop:=if ok=true then SgG base v sig cs w else cs=BK
theorem SwG.one{base:Nat}{v:Vt}{sig:List UInt8}{ok:Bool}{cs:Array Value}{V:World}(h:SwG base v sig ok cs V):cs.size=23∧∀u∈cs.toList,u.oneCell'=true:=by
 cases ok with
 |true=>exact SgG.one h
 |false=>have h':cs=BK:=h;subst h';exact⟨rfl,fun u hu=>NJ hu⟩
theorem SwG.kept{base:Nat}{v:Vt}{sig:List UInt8}{ok:Bool}{cs:Array Value}{V V':World}{r t:Nat}{x:Array Value}(h:SwG base v sig ok cs V)(hB:Blk V r t x)(ht:5≠t)(hg:V.grownBy V' (some r)):SwG base v sig ok cs V':=by
 cases ok with
 |true=>exact SgG.kept h hB ht hg
 |false=>exact h
theorem SwG.below{base:Nat}{v:Vt}{sig:List UInt8}{ok:Bool}{cs:Array Value}{V V':World}(h:SwG base v sig ok cs V)(hb:Below V.heap.size V V'):SwG base v sig ok cs V':=by
 cases ok with
 |true=>
  obtain⟨A,c,rfl,ho⟩:=(h:SgG base v sig cs V);exact⟨A,c,rfl,BA ho hb (AB _)⟩
 |false=>exact h
theorem J8{s:Nm}{h m leaf base:Nat}{v:Vt}{w:World}{ok:Bool}(hk:Bc s h m w)(hv:v.ok)(hok:ok=true↔Ae v∧leaf<1024)(hbase:base≤w.heap.size):Calls Tryz.prog 77 #[Am h,.int .i64 (leaf:Int),v.val] w fun e w'=>∃cs,e= .returned (.tuple #[.agg cs,.bool ok])∧SwG base v (EI s leaf (DZ v)) ok cs w'∧w.grownBy w' (some m)∧Bc s h m w':=by
 cases ok with
 |true=>
  obtain⟨hy,hl⟩:=hok.1 rfl;exact(Jk s h m leaf base v w hv hk hl hy hbase).mono fun e w' ⟨⟨cs,h1,h2,h3⟩,h4⟩=>⟨cs,h1,h2,h3,h4⟩
 |false=>
  have hn:¬(Ae v∧leaf<1024):=fun x=>by have:=hok.2 x;cases this
  by_cases hy:Ae v
  ·have hl:¬leaf<1024:=fun x=>hn ⟨hy,x⟩
   exact(Lv s h m (leaf:Int) v w hv hk.1 (.inr (by omega)) hy).mono fun e w' ⟨h1,h2⟩=>⟨BK,h1,rfl,Bm h2,hk.below h2⟩
  ·exact(Kh (some ⟨h,0,none⟩) (leaf:Int) v w hv hy).mono fun e w' ⟨h1,h2⟩=>⟨BK,h1,rfl,Bm h2,hk.below h2⟩
theorem UE(c:Prop):∃ok:Bool,(ok=true↔c):=by
 by_cases h:c
 ·exact⟨true,by simp[h]⟩
 ·exact⟨false,by simp[h]⟩
theorem Kj{Bs g m sb n c nl:Nat}{w w1:World}{G:GmS}{v0 v1:Value}{sl:List Vt}{v:Vt}(h:A9 Bs w g G)(hm:G.sg[m]? =some (v0,sl))(hsv:G.sv= .slice (some ⟨sb,0,none⟩) n c)(hnl:sl.length=nl)(hg:w.grownBy w1 v0.ownBlock)(hown:w1.ownsRow Bs 46 22 v1 (nl+1) (sl.flatMap vtc++vtc v))(hat:v1.ownBlock=v0.ownBlock∨v1.ownBlock=some w.heap.size):(A9 Bs (w1.setCell ⟨sb,m,none⟩ v1) g (G.setS m v1 (sl++[v]))∧w1.grownBy (w1.setCell ⟨sb,m,none⟩ v1) (some sb))∧((∃u,w1.cell? ⟨sb,m,none⟩=some u)∧w1.frozen? ⟨sb,m,none⟩=false)∧w.grownBy w1 v0.ownBlock∧∀k,v0.ownBlock=some k→Bs≤k:=by
 have hown':w1.ownsRow Bs 46 22 v1 (sl++[v]).length ((sl++[v]).flatMap vtc):=by
  rw[AI,Ad,hnl];simpa using hown
 refine⟨h.setS hm hsv hg hown' (hat.imp id fun e=>⟨_,e,AB _⟩),?_,hg,fun k hk=>((h.sgs m _ hm).lt k hk).1⟩;have hs:=h.srow;rw[hsv]at hs;obtain⟨kb,c',hv,hc,⟨cs,hB⟩,hin⟩:=CF (i:=m) (u:=v0) hs (by rw[AU,hm];rfl);have hkb:sb=kb:=by
  injection hv with h1
  injection h1 with h1
  injection h1 with h1
 subst hkb;have hB1:Blk w1 sb 56 cs:=hB.kept hg (fun e=>by
  rcases(h.sgs m _ hm).2 with⟨hv',_⟩|⟨g',cap,cur,hv',_,hh,_⟩
  ·rw[show v0=_ from hv']at e;simp[Value.ownBlock]at e
  ·rw[show v0=_ from hv']at e;have:sb=g':=by simpa[Value.ownBlock]using e
   subst this;exact absurd (Cd hB hh) (by decide))
 exact⟨⟨v0,by rw[hB1.cell,←hB.cell];exact hc⟩,hB1.frozen m⟩
theorem Kk{Bs g z:Nat}{w w':World}{G:GmS}{cs:Array Value}(h:A9 Bs w g G)(hZ:Blk w z 62 cs)(hg:w.grownBy w' (some z))(hn:∀(i:Nat) (p:Nat×PrS),G.ps[i]? =some p→p.2.v.ownBlock≠some z):A9 Bs w' g G:=by
 have ho:∀t,t≠62→Off w z t:=fun t ht=>.blk hZ (fun e=>ht e.symm)
 refine⟨h.blk.off hg (ho _ (by decide)),BO h.krow hg (ho _ (by decide)),BO h.prow hg (ho _ (by decide)),BO h.srow hg (ho _ (by decide)),fun j k hk=>⟨?_,(h.keys j k hk).2⟩,fun j p hp=>⟨?_,(h.prs j p hp).2⟩,fun j x hx=>BO (h.sgs j x hx) hg (ho _ (by decide)),h.kn,h.pn,h.sn⟩
 ·have hK:=(h.keys j k hk).1;refine hK.off hg (fun e=>?_) (ho _ (by decide)) (ho _ (by decide));obtain⟨_,_,tl,a3,_⟩:=hK;exact(Off.map a3:Off w k.m 62) _ (e▸hZ)
 ·have hP:=(h.prs j p hp).1;exact⟨hP.blk.off hg (ho _ (by decide)),BZ hP.row hg (fun k hk=>.inr (by injection hk with hk;subst hk;exact hn j p hp)),fun s hs=>(hP.sgs s hs).off hg (ho _ (by decide)),BO hP.dec hg (ho _ (by decide))⟩
theorem Kl{Bs g:Nat}{w:World}{G:GmS}(h:A9 Bs w g G){z:Nat}(hz:w.heap.size≤z)(i:Nat)(p:Nat×PrS)(hp:G.ps[i]? =some p):p.2.v.ownBlock≠some z:=fun e=>by
 have:=((h.prs i p hp).1.row.lt z e).2;omega
theorem Qh{Bs g:Nat}{w w':World}{G:GmS}{cs:Array Value}(h:A9 Bs w g G)(hg:(w.alloc (.cells cs 62)).grownBy w' (some w.heap.size)):A9 Bs w' g G:=
 Kk (h.below ((AC _ w).alloc (AB _) _)) (Blk.new w _ _) hg (Kl h (AB _))
abbrev PrS.signd(P:PrS)(v:Value)(L:List Sg):PrS:={P with v:=v,L:=L,leaf:=P.leaf+1}
def Qi(Bs g i b:Nat)(G:GmS)(P:PrS)(k:KyS)(sl:List Vt)(v:Vt)(w:World)(e:Ending)(w':World):Prop:=
 Below Bs w w'∧((¬(Ae v∧P.leaf<1024)∧e= .returned (.bool false)∧A9 Bs w' g G)∨
  ((Ae v∧P.leaf<1024)∧e= .returned (.bool true)∧∃(va vs:Value) (L:List Sg),L.map Sg.vs=CD (P.L.map Sg.vs++[(v,EI k.seed P.leaf (DZ v))])∧A9 Bs w' g ((G.setP i b (P.signd va L)).setS P.mem vs (sl++[v]))))
theorem Qj{Bs g i b:Nat}{w:World}{G:GmS}{P:PrS}{k:KyS}{sv0:Value}{sl:List Vt}(h:A9 Bs w g G)(hBs:Bs≤w.heap.size)(hi:G.ps[i]? =some (b,P))(hk:G.ks[P.mem]? =some k)(hs:G.sg[P.mem]? =some (sv0,sl))(v:Vt)(hv:v.ok)(hsm:P.L.length<1000000)(hsl:sl.length<1000000):Calls Tryz.prog 74 #[Am g,Am b,v.val] w (Qi Bs g i b G P k sl v w):=by
 obtain⟨w1,hw1⟩:∃w1,w1=w.alloc (.cells v.cells 46):=⟨_,rfl⟩;have hb1:Below w.heap.size w w1:=by rw[hw1];exact(AC _ _).alloc (AB _) _
 have h1:A9 Bs w1 g G:=h.below hb1;obtain⟨q,hq⟩:∃q,q=w.heap.size:=⟨_,rfl⟩;have hV1:Blk w1 q 46 v.cells:=by rw[hw1,hq];exact Blk.new w _ _
 have hqB:Bs≤q:=by omega
 obtain⟨kb,kc,hkv,hkc,⟨kcs,hkB⟩,hkn⟩:=CF (i:=P.mem) (u:=Am k.h) h1.krow (by rw[AU,hk];rfl);have hP1:=(h1.prs i _ hi).1;have hK1:=(h1.keys _ k hk).1;have HCs:Hid (∀V,w1.grownBy V (some k.m)→V.cell? ⟨g,10,none⟩=some (.slice (some ⟨kb,0,none⟩) G.ks.length kc)∧V.cell? ⟨b,1,none⟩=some (.int .i64 (P.mem:Int))∧V.cell? ⟨kb,P.mem,none⟩=some (Am k.h)∧V.cell? ⟨b,3,none⟩=some (.int .i64 (P.leaf:Int))∧AK V q 0 22=some v.cells):=fun V hV=>by
  obtain⟨_,_,tl,hM,_⟩:=hK1;have ho:∀t,Off w1 k.m t:=fun t=>.map hM
  refine⟨?_,(hP1.blk.off hV (ho _)).cell 1,?_,(hP1.blk.off hV (ho _)).cell 3,(hV1.off hV (ho _)).row 22 rfl⟩
  ·rw[←hkv];exact(h1.blk.off hV (ho _)).cell 10
  ·rw[(hkB.off hV (ho _)).cell,←hkB.cell];exact hkc
 have hmn:(P.mem:Int)<(G.ks.length:Int):=by omega
 obtain⟨nk,hnk⟩:∃nk,nk=G.ks.length:=⟨_,rfl⟩;rw[←hnk]at HCs hmn hkn;obtain⟨ok,hok⟩:∃ok:Bool,(ok=true↔Ae v∧P.leaf<1024):=UE _;obtain⟨sig,hsig⟩:∃sig,sig=EI k.seed P.leaf (DZ v):=⟨_,rfl⟩;have HSW:Hid (∀V,A9 Bs V g G→Bs≤V.heap.size→Calls Tryz.prog 77 #[Am k.h,.int .i64 (P.leaf:Int),v.val] V fun e w'=>∃cs,e= .returned (.tuple #[.agg cs,.bool ok])∧SwG Bs v sig ok cs w'∧V.grownBy w' (some k.m)∧A9 Bs w' g G):=fun V hV hBV=>by
  rw[hsig];exact(J8 (hV.keys _ k hk).1 hv hok hBV).mono fun e w' ⟨cs,a1,a2,a3,a4⟩=>⟨cs,a1,a2,a3,hV.turnM hk a3 a4⟩
 have hkmB:=(h1.keys _ k hk).2;have hkm1:k.m<w1.heap.size:=by obtain⟨_,_,tl,hM,_⟩:=hK1;exact hM.lt
 have HQne:Hid (sv0.ownBlock≠some q):=fun e=>by
  have:=((h.sgs _ _ hs).lt q e).2;omega
 have HG1:=AA h1;have HV1:=AA hV1;have HI:=AA hi;have HK:=AA hk;have HS:=AA hs;have HV:=AA hv;have HOk:=AA hok;have HSig:=AA hsig;have HW1:=AA hw1;have HQ:=AA hq;have hbB1:Below Bs w w1:=hb1.mono hBs;have hBs1:Bs≤w1.heap.size:=AF hBs hb1.size;have HMv:Hid (∀V,w1.grownBy V (some k.m)→Blk V q 46 v.cells):=fun V hV=>by
  obtain⟨_,_,tl,hM,_⟩:=hK1;exact hV1.off hV (.map hM)
 have hql:q<w1.heap.size:=hV1.lt;clear h h1 hi hk hs hw1 hq hV1 hkv hkc hkB hP1 hK1 hnk hok hsig hv hb1;go_enter Tryz.func74,Tryz.ntmps74;go_upto_region 1 with fail
 simp only[←HW1.out,←HQ.out];go_cut[7,8] (fun pv bv wx=>∃z cs,pv= .pointer (some ⟨z,0,none⟩)∧bv= .bool ok∧Blk wx z 62 cs∧SwG Bs v sig ok cs wx∧A9 Bs wx g G∧Blk wx q 46 v.cells∧w1.heap.size≤z∧w1.grownBy wx (some k.m))
 case first=>
  refine rgD (fun V=>V.cell? ⟨g,10,none⟩=some (.slice (some ⟨kb,0,none⟩) nk kc)∧V.cell? ⟨b,1,none⟩=some (.int .i64 (P.mem:Int))∧V.cell? ⟨kb,P.mem,none⟩=some (Am k.h)∧V.cell? ⟨b,3,none⟩=some (.int .i64 (P.leaf:Int))∧AK V q 0 22=some v.cells) (HCs.out _ (BX (Ai w1 k.m))) fun hHeld=>?_
  refine tkD 10 0 ?_;go_frame;refine tkD 11 1 ?_;go_frame;refine tkD 12 2 ?_;go_frame;refine tkD 13 3 ?_;go_frame;refine tkD 14 4 ?_;go_frame;refine tkD 15 5 ?_;go_frame;refine tkD 16 6 ?_;go_frame;refine tkD 17 7 ?_;go_frame;refine tkD 18 8 ?_;go_frame;refine tkD 19 9 ?_;go_frame;refine tkD 20 10 ?_;go_frame;refine tkD 21 11 ?_;go_frame;refine tkD 22 12 ?_;go_frame;refine tkD 23 13 ?_;go_frame;refine tkD 24 14 ?_;go_frame;refine rd2 15 19 (fun K hK=>?_) fun K hK=>?_
  ·go_simp;refine(HSW.out _ (HG1.out.below (AC _ w1).drew) hBs1).mono ?_;rintro en w3 ⟨cs,rfl,hsw,hg3,hgm3⟩;have hg13:w1.grownBy w3 (some k.m):=(BX (Ai w1 k.m)).trans hg3;have HSw:=AA hsw;have HGm:=AA hgm3;clear hsw hg3 hgm3;go_wp2_with fail
   refine hK.out _ _ (HCs.out _ hg13) (fun hHeld=>?_);clear hK K;try go_frame
   refine tkD 9 16 ?_;go_frame;refine tkD 26 17 ?_;go_frame;refine tkD 27 18 ?_;go_frame;refine rd1 19 fun K hK=>?_
   go_simp;refine hK.out _ _ (HCs.out _ (Bl hg13 _)) (fun hHeld=>?_);clear hK K;try go_frame
   refine rd1 20 fun K hK=>?_
   rw[if_pos (by rfl)];refine BQ 62 (.tmp 7) (.tmp 26) (by rfl) w3.heap.size cs (by rfl) (by rfl) 62 BK (Blk.new w3 _ _) (by rw[HSw.out.one.1];rfl) (by rw[HSw.out.one.1];exact Cx) HSw.out.one.2 (by rfl) ?_;intro w5 hR5 hg5 hsz5;have hg15:w1.grownBy w5 (some k.m):=(Bl hg13 _).andThen hg5 (fun j hj=>by injection hj with hj;subst hj;exact .inl hg13.size);refine hK.out _ _ (HCs.out _ hg15) (fun hHeld=>?_);clear hK K;try go_frame
   refine tkD 8 21 ?_;go_frame;refine dnD ?_;go_wp2_with fail
   go_meet;refine⟨w3.heap.size,cs,rfl,rfl,hR5,(HSw.out.below ((AC _ w3).alloc (AB _) _)).kept (Blk.new w3 _ _) (by decide) hg5,Qh HGm.out hg5,HMv.out _ hg15,hg13.size,hg15⟩
  ·go_simp;refine hK.out _ _ (HCs.out _ (Bl (BX (Ai w1 k.m)) _)) (fun hHeld=>?_);clear hK K;try go_frame
   refine rd1 15 fun K hK=>?_
   go_simp;refine(HSW.out _ (HG1.out.below ((AC _ w1).alloc (AB _) _).drew) (AF hBs1 (by simp))).mono ?_;rintro en w3 ⟨cs,rfl,hsw,hg3,hgm3⟩;have hg13:w1.grownBy w3 (some k.m):=(BX (Bl (Ai w1 k.m) _)).trans hg3;have HSw:=AA hsw;have HGm:=AA hgm3;have hZ3:Blk w3 w1.heap.size 62 BK:=Blk.kept (w:=(w1.alloc (.cells BK 62)).drew) (Blk.new w1 _ _) hg3 (by intro e;injection e with e;omega);have HZ3:=AA hZ3;clear hsw hg3 hgm3 hZ3;go_wp2_with fail
   refine hK.out _ _ (HCs.out _ hg13) (fun hHeld=>?_);clear hK K;try go_frame
   refine tkD 9 16 ?_;go_frame;refine tkD 26 17 ?_;go_frame;refine tkD 27 18 ?_;go_frame;refine rd1 20 fun K hK=>?_
   rw[if_pos (by rfl)];refine BQ 62 (.tmp 7) (.tmp 26) (by rfl) w1.heap.size cs (by rfl) (by rfl) 62 BK (HZ3.out) (by rw[HSw.out.one.1];rfl) (by rw[HSw.out.one.1];exact Cx) HSw.out.one.2 (by rfl) ?_;intro w5 hR5 hg5 hsz5;have hg15:w1.grownBy w5 (some k.m):=hg13.andThen hg5 (fun j hj=>by injection hj with hj;subst hj;exact .inl (AB _));refine hK.out _ _ (HCs.out _ hg15) (fun hHeld=>?_);clear hK K;try go_frame
   refine tkD 8 21 ?_;go_frame;refine dnD ?_;go_wp2_with fail
   go_meet;refine⟨w1.heap.size,cs,rfl,rfl,hR5,HSw.out.kept (HZ3.out) (by decide) hg5,Kk HGm.out HZ3.out hg5 (Kl HG1.out (AB _)),HMv.out _ hg15,AB _,hg15⟩
 case rest=>
  obtain⟨z,cs,rfl,rfl,hZ,hsw,hgm,hVq,hz,hg⟩:=hcut;generalize wc=w3 at*;have hbB3:Below Bs w w3:=hbB1.grown hg hBs1 (fun j hj=>by injection hj with hj;subst hj;exact hkmB);have hBs3:Bs≤w3.heap.size:=AF hBs1 hg.size;have HGm:=AA hgm;have HZ:=AA hZ;have HVq:=AA hVq;clear hgm hZ hVq HSW HCs HG1 HV1 hg;cases ok with
  |false=>
   have hlf:¬(Ae v∧P.leaf<1024):=fun x=>by
    have:=HOk.out.2 x;cases this
   go_wp2;go_ret;exact⟨hbB3,.inl ⟨hlf,rfl,HGm.out⟩⟩
  |true=>
   have hvl:Ae v∧P.leaf<1024:=HOk.out.1 rfl;have hlf:P.leaf<1024:=hvl.2;obtain⟨A,c,rfl,hown⟩:=(hsw:SgG Bs v sig cs w3);have HOwn:=AA hown;have hP:=(HGm.out.prs i _ HI.out).1;have y3:w3.cell? ⟨b,3,none⟩=some (.int .i64 (P.leaf:Int)):=hP.blk.cell 3;have y4:w3.frozen? ⟨b,3,none⟩=false:=hP.blk.frozen 3;have hwl:IntKind.i64.wrap ((P.leaf:Int)+1)=(P.leaf:Int)+1:=by rw[IntKind.wrap_i64];omega
   clear hown hP;go_upto_region 5 with fail
   obtain⟨w4,hw4⟩:∃w4,w4=w3.setCell ⟨b,3,none⟩ (.int .i64 ((P.leaf:Int)+1)):=⟨_,rfl⟩;rw[←hw4];replace hw4:w4=w3.setCell ⟨b,3,none⟩ (.int .i64 ((P.leaf+1:Nat):Int)):=hw4;have hg4:w3.grownBy w4 (some b):=by rw[hw4];exact Bi (p:=⟨b,3,none⟩) (Ai w3 b) rfl _
   have hbB:Bs≤b:=(HGm.out.prs i _ HI.out).2;obtain⟨P1,hP1⟩:∃P1:PrS,P1={P with leaf:=P.leaf+1}:=⟨_,rfl⟩;have hPB3:=(HGm.out.prs i _ HI.out).1.blk;have hA4:Cu Bs w4 b P1:=by
    have hP:=(HGm.out.prs i _ HI.out).1;rw[hP1];refine⟨by rw[hw4];exact hP.blk.put 3 _,BO hP.row hg4 (.blk hPB3 (by decide)),fun s hs=>(hP.sgs s hs).off hg4 (.blk hPB3 (by decide)),BO hP.dec hg4 (.blk hPB3 (by decide))⟩
   have hG4:A9 Bs w4 g (G.setP i b P1):=HGm.out.setP HI.out hg4 hA4;have hZ4:Blk w4 z 62 (Sg.mk v sig A c).cells:=HZ.out.off hg4 (.blk hPB3 (by decide));have hV4:Blk w4 q 46 v.cells:=HVq.out.off hg4 (.blk hPB3 (by decide));have ho4:Bj w4 Bs (Sg.mk v sig A c):=⟨HV.out,BO HOwn.out hg4 (.blk hPB3 (by decide)),by show sig.length≤_;rw[HSig.out,Ip];omega⟩;have hbB4:Below Bs w w4:=hbB3.grown hg4 hBs3 (fun j hj=>by injection hj with hj;subst hj;exact hbB);have hBs4:Bs≤w4.heap.size:=AF hBs3 hg4.size;have HX0:Hid (∀V,w4.grownBy V (some b)→AK V z 0 23=some (Sg.mk v sig A c).cells):=fun V hV=>(hZ4.off hV (.blk hA4.blk (by decide))).row 23 (Sg.size_cells _)
   have x1:AK w4.drew z 0 23=some (Sg.mk v sig A c).cells:=hZ4.row 23 (Sg.size_cells _);obtain⟨s,hs⟩:∃s,s=Sg.mk v sig A c:=⟨_,rfl⟩;rw[←hs]at x1 hZ4 ho4 HX0;have HX:=HX0;have HG4:=AA hG4;have HA4:=AA hA4;have HZ4:=AA hZ4;have HV4:=AA hV4;have HO4:=AA ho4;have HSe:=AA hs;have HP1:=AA hP1;have hsc:s.cells.size=23:=Sg.size_cells s;have hP1L:P1.L=P.L:=by rw[hP1]
   have hP1m:P1.mem=P.mem:=by rw[hP1]
   have HL1:=AA hP1L;have HM1:=AA hP1m;have hzw:z<w4.heap.size:=HZ4.out.lt;clear hw4 hG4 hA4 hZ4 hV4 ho4 hs hP1 hP1L hP1m hPB3 hg4 HGm HZ HVq HOwn y3 y4;obtain⟨w5,hw5⟩:∃w5,w5=w4.drew.alloc (.cells s.cells 62):=⟨_,rfl⟩;have hb45:Below w4.heap.size w4 w5:=by rw[hw5];exact(AC w4.heap.size w4).drew.alloc (AB _) _
   obtain⟨wb,hwb⟩:∃wb,wb=w4.heap.size:=⟨_,rfl⟩;have hW5:Blk w5 wb 62 s.cells:=by rw[hw5,hwb];exact Blk.new w4.drew _ _
   have hr5:Rd w5 w5.heap.size (some ⟨wb,0,none⟩) ([s].flatMap sgc):=by
    have:=Rd.of_blk hW5 0 23;rw[List.drop_zero,AT (by rw[Array.length_toList,hsc];exact AB _)]at this;simpa using this
   have hA5:=HA4.out.below hb45;have HAdd:=AA (Ki hA5 (AF hBs4 hb45.size) (some ⟨wb,0,none⟩) 1 1 [s] rfl hr5 (fun s' hs'=>by rw[AR.1 hs'];exact(HO4.out.below hb45 (AB _)).ok) (by rw[HL1.out];omega));have HG5:=AA (HG4.out.below hb45);have HV5:=AA (HV4.out.below hb45 HV4.out.lt);have HW5:=AA hw5;have HWb:=AA hwb;clear hw5 hwb hW5 hr5 hA5;refine rgD (fun V=>AK V z 0 23=some s.cells) (x1) fun hHeld=>?_
   refine tkD 37 0 ?_;go_frame;refine tkD 38 1 ?_;go_frame;refine tkD 39 2 ?_;go_frame;refine tkD 40 3 ?_;go_frame;refine rd1 4 fun K hK=>?_
   rw[if_pos (by rfl)];refine Dk (some 41) rfl 50 62 (.tmp 40) rfl s.cells rfl Tryz.underlying50 (by rw[hsc];kernel_rfl) (by rw[hsc];decide) (by rw[hsc];decide) ?_;rw[←HW5.out,show w4.drew.heap.size=wb from HWb.out.symm];refine hK.out _ _ (HX.out w5 (Bm hb45)) (fun hHeld=>?_);clear hK K;try go_frame
   refine rd1 5 fun K hK=>?_
   go_simp;refine HAdd.out.mono ?_;rintro en w6 ⟨va,L,rfl,hA6,hL6,hg6⟩;go_wp2_with fail
   refine hK.out _ _ (HX.out w6 ((Bm hb45).trans hg6)) (fun hHeld=>?_);clear hK K;try go_frame
   refine dnD ?_;go_wp2_with fail
   obtain⟨P2,hP2⟩:∃P2,P2=P1.more va L:=⟨_,rfl⟩;rw[←hP2]at hA6;have hG6':=A9.setP (P:=P1) HG5.out (List.getElem?_set_self (AG.1 HI.out).1) hg6 hA6;have hG6:A9 Bs w6 g (G.setP i b P2):=by
    have e:(G.setP i b P1).setP i b P2=G.setP i b P2:=by simp[GmS.setP,List.set_set]
    rwa[e]at hG6'
   have hPB5:=(HA4.out.below hb45).blk;have hV6:Blk w6 q 46 v.cells:=HV5.out.off hg6 (.blk hPB5 (by decide));have hbB6:Below Bs w w6:=(hbB4.trans (hb45.mono hBs4)).grown hg6 (AF hBs4 hb45.size) (fun j hj=>by injection hj with hj;subst hj;exact hbB);have hBs6:Bs≤w6.heap.size:=AF hBs4 (AF hb45.size hg6.size);have hql6:q<w6.heap.size:=hV6.lt;obtain⟨sb,sc,hsv,hsc6,⟨scs,hsB⟩,hsn⟩:=CF (i:=P.mem) (u:=sv0) hG6.srow (by rw[AU];show(G.sg[P.mem]?).map _=_;rw[HS.out];rfl);obtain⟨ns,hns⟩:∃ns,ns=G.sg.length:=⟨_,rfl⟩;have hsv':G.sv= .slice (some ⟨sb,0,none⟩) ns sc:=by rw[hns];exact hsv
   have z1:w6.drew.cell? ⟨g,12,none⟩=some (.slice (some ⟨sb,0,none⟩) ns sc):=by rw[←hsv'];exact hG6.blk.cell 12
   have z2:w6.drew.cell? ⟨b,1,none⟩=some (.int .i64 (P.mem:Int)):=by
    have:=hA6.blk.cell 1;rw[hP2]at this;rw[←HM1.out];exact this
   have z3:w6.drew.cell? ⟨sb,P.mem,none⟩=some sv0:=hsc6;have z4:AK w6.drew q 0 22=some v.cells:=hV6.row 22 rfl;have hsn':(P.mem:Int)<(ns:Int):=by rw[hns];have:P.mem<G.sg.length:=hsn;omega
   have hown6:w6.ownsRow Bs 46 22 sv0 sl.length (sl.flatMap vtc):=hG6.sgs P.mem (sv0,sl) HS.out;have HG6:=AA hG6;have HOwn6:=AA hown6;have HSv:=AA hsv';have HL6:=AA hL6;have HP2:=AA hP2;have HsB:=AA hsB;obtain⟨nl,hnl⟩:∃nl,sl.length=nl:=⟨_,rfl⟩;rw[hnl]at hsl;have HNl:=AA hnl;obtain⟨AS,cS,hsv0⟩:=Ar hown6;rw[hnl]at hsv0;have HX6:Hid (∀V,w6.grownBy V sv0.ownBlock→V.cell? ⟨g,12,none⟩=some (.slice (some ⟨sb,0,none⟩) ns sc)∧V.cell? ⟨b,1,none⟩=some (.int .i64 (P.mem:Int))∧AK V q 0 22=some v.cells):=fun V hV=>by
    have o1:∀(k:Nat) (t:TypeId),sv0.ownBlock=some k→t≠46→Off w6 k t:=fun k t hk ht=>by
     rcases hown6.2 with⟨hv,_⟩|⟨g',cap,cur,hv,_,hh,_⟩
     ·rw[hv]at hk;simp[Value.ownBlock]at hk
     ·rw[hv]at hk;have:g'=k:=by simpa[Value.ownBlock]using hk
      subst this;exact .blk hh (fun e=>ht e.symm)
    have bk:∀{b' t:Nat} {cs:Array Value},t≠46→Blk w6 b' t cs→Blk V b' t cs:=fun ht hB=>hB.kept hV (fun e=>o1 _ _ e.symm ht _ hB)
    refine⟨by rw[←hsv'];exact(bk (by decide) hG6.blk).cell 12,?_,(hV6.kept hV (fun e=>HQne.out e.symm)).row 22 rfl⟩;have:=(bk (by decide) hA6.blk).cell 1;rw[hP2]at this;rw[←HM1.out];exact this
   have HX6b:Hid (∀V V',w6.grownBy V sv0.ownBlock→V.grownBy V' (some sb)→V'.cell? ⟨g,12,none⟩=some (.slice (some ⟨sb,0,none⟩) ns sc)∧V'.cell? ⟨b,1,none⟩=some (.int .i64 (P.mem:Int))∧AK V' q 0 22=some v.cells):=fun V V' hV hV'=>by
    have o1:∀(k:Nat) (t:TypeId),sv0.ownBlock=some k→t≠46→Off w6 k t:=fun k t hk ht=>by
     rcases hown6.2 with⟨hv,_⟩|⟨g',cap,cur,hv,_,hh,_⟩
     ·rw[hv]at hk;simp[Value.ownBlock]at hk
     ·rw[hv]at hk;have:g'=k:=by simpa[Value.ownBlock]using hk
      subst this;exact .blk hh (fun e=>ht e.symm)
    have bk:∀{b' t:Nat} {cs:Array Value},t≠46→Blk w6 b' t cs→Blk V b' t cs:=fun ht hB=>hB.kept hV (fun e=>o1 _ _ e.symm ht _ hB)
    have hsV:=bk (by decide) hsB;refine⟨by rw[←hsv'];exact((bk (by decide) hG6.blk).off hV' (.blk hsV (by decide))).cell 12,?_,((hV6.kept hV (fun e=>HQne.out e.symm)).off hV' (.blk hsV (by decide))).row 22 rfl⟩;have:=((bk (by decide) hA6.blk).off hV' (.blk hsV (by decide))).cell 1;rw[hP2]at this;rw[←HM1.out];exact this
   have HCz:Hid (((w6.drew).alloc (.cells v.cells 46)).cell? ⟨sb,P.mem,none⟩=some sv0):=by
    unfold Hid;rw[(Blk.alloc (w:=w6.drew) hsB _).cell,←hsB.cell];exact hsc6
   have HSv0:=AA hsv0;clear hG6' hG6 hV6 hown6 hsv hsv' hsB hsn hns hL6 hP2 hA6 hg6 hPB5 HAdd HG5 HV5 HW5 HA4 HZ4 HV4 HO4 x1 hsc6 hnl;rw[hsv0]at z3 HCz;clear hsv0;have hb67:Below w6.heap.size w6 ((w6.drew).alloc (.cells v.cells 46)):=(AC w6.heap.size w6).drew.alloc (AB _) _;have HG7:=AA (HG6.out.below hb67);have HOwn7:Hid (((w6.drew).alloc (.cells v.cells 46)).ownsRow Bs 46 22 sv0 nl (sl.flatMap vtc)):=by unfold Hid;rw[←HNl.out];exact BA HOwn6.out hb67 (AB _)
   have HR7:Hid (Rd ((w6.drew).alloc (.cells v.cells 46)) ((w6.drew).alloc (.cells v.cells 46)).heap.size (some ⟨w6.heap.size,0,none⟩) (vtc v)):=by
    have hB:Blk ((w6.drew).alloc (.cells v.cells 46)) w6.heap.size 46 v.cells:=Blk.new w6.drew _ _;exact Rd.mk hB.lt (fun j u hu=>by rw[Nat.zero_add,hB.cell];simpa using hu)
   have hbB7:Below Bs w ((w6.drew).alloc (.cells v.cells 46)):=hbB6.trans (hb67.mono hBs6);have hBs7:Bs≤((w6.drew).alloc (.cells v.cells 46)).heap.size:=AF hBs6 hb67.size;refine rgD (fun V=>V.cell? ⟨g,12,none⟩=some (.slice (some ⟨sb,0,none⟩) ns sc)∧V.cell? ⟨b,1,none⟩=some (.int .i64 (P.mem:Int))∧AK V q 0 22=some v.cells) (HX6.out _ (Fe sv0)) fun hHeld=>?_
   refine tkD 43 0 ?_;go_frame;refine tkD 44 1 ?_;go_frame;refine tkD 45 2 ?_;go_frame;refine tkD 46 3 ?_;go_frame;refine tkD 47 4 ?_;go_frame;refine tkD 48 5 ?_;go_frame;refine tkD 49 6 ?_;go_frame;refine tkD 50 7 ?_;go_frame;refine tkD 51 8 ?_;go_frame;refine tkD 52 9 ?_;go_frame;refine tkD 53 10 ?_;go_frame;refine tkD 54 11 ?_;go_frame;refine tkD 55 12 ?_;go_frame;refine tkD 56 13 ?_;go_frame;refine tkD 57 14 ?_;go_frame;refine tkD 58 15 ?_;go_frame;refine tkD 59 16 ?_;go_frame;refine tkD 61 18 ?_;go_frame;refine rd2 17 19 (fun K hK=>?_) fun K hK=>?_
   ·rw[if_pos (by rfl)];refine B5 (.slice AS nl cS) (EB (.tmp 59) rfl sb P.mem rfl _ (z3)) ?_;refine hK.out _ _ (HX6.out _ (Fe sv0)) (fun hHeld=>?_);clear hK K;try go_frame
    refine rd1 19 fun K hK=>?_
    rw[if_pos (by rfl)];refine Dk (some 62) rfl 56 46 (.tmp 61) rfl v.cells rfl Tryz.underlying56 (by kernel_rfl) (by simp) (by simp) ?_;refine hK.out _ _ (HX6.out _ (Eb sv0 _)) (fun hHeld=>?_);clear hK K;try go_frame
    refine rd1 20 fun K hK=>?_
    rw[if_pos (by rfl)];refine DU (some 63) rfl (.tmp 60) (.tmp 62) 56 rfl Bs 46 (.agg Bk.cells) 22 64 Tryz.underlying56 CA rfl (by decide) sv0 nl (sl.flatMap vtc) HSv0.out.symm HOwn7.out ((w6.drew).alloc (.cells v.cells 46)).heap.size (some ⟨w6.heap.size,0,none⟩) 1 1 (vtc v) rfl rfl HR7.out (fun u hu=>BM v hu) (by omega) (by unfold maxLen;omega) hBs7 ?_;intro v8 w8 hown8 hg8 hat8;have hS8:=Kj HG7.out HS.out HSv.out (HNl.out) hg8 hown8 hat8;obtain⟨A8,c8,rfl⟩:=Ar hown8;have HX8:Hid (w6.grownBy w8 sv0.ownBlock):=IQ hb67 hg8;have HS8:=AA hS8;clear hS8 hown8 hg8 hat8;refine hK.out _ _ (HX6.out _ HX8.out) (fun hHeld=>?_);clear hK K;try go_frame
    refine tkD 64 21 ?_;go_frame;refine rd1 22 fun K hK=>?_
    rw[if_pos (by rfl)];refine Bw (.tmp 64) (.tmp 63) (by rfl) sb P.mem (.slice A8 (nl+1) c8) (by rfl) (by rfl) HS8.out.2.1 Gf rfl (by rfl) ?_;refine hK.out _ _ (HX6b.out _ _ HX8.out HS8.out.1.2) (fun hHeld=>?_);clear hK K;try go_frame
    refine dnD ?_;have hbB8:Below Bs w w8:=hbB7.grown HS8.out.2.2.1 hBs7 HS8.out.2.2.2;have hsbB:Bs≤sb:=by
     have h1:=HG7.out.srow;rw[show(G.setP i b P2).sv=_ from HSv.out]at h1;exact(h1.lt sb rfl).1
    go_wp2;go_ret;refine⟨hbB8.setCell (p:=⟨sb,P.mem,none⟩) hsbB _,.inr ⟨hvl,rfl,va,.slice A8 (nl+1) c8,L,?_,?_⟩⟩
    ·rw[HL6.out,HL1.out,HSe.out,←HSig.out,Ac];rfl
    ·have h9:=HS8.out.1.1;rw[HP2.out,HP1.out]at h9;exact h9
   ·rw[if_pos (by rfl)];refine Dk (some 62) rfl 56 46 (.tmp 61) rfl v.cells rfl Tryz.underlying56 (by kernel_rfl) (by simp) (by simp) ?_;refine hK.out _ _ (HX6.out _ (Eb sv0 _)) (fun hHeld=>?_);clear hK K;try go_frame
    refine rd1 17 fun K hK=>?_
    rw[if_pos (by rfl)];refine B5 (.slice AS nl cS) (EB (.tmp 59) rfl sb P.mem rfl _ ((HCz.out))) ?_;refine hK.out _ _ (HX6.out _ (Eb sv0 _)) (fun hHeld=>?_);clear hK K;try go_frame
    refine rd1 20 fun K hK=>?_
    rw[if_pos (by rfl)];refine DU (some 63) rfl (.tmp 60) (.tmp 62) 56 rfl Bs 46 (.agg Bk.cells) 22 64 Tryz.underlying56 CA rfl (by decide) sv0 nl (sl.flatMap vtc) HSv0.out.symm HOwn7.out ((w6.drew).alloc (.cells v.cells 46)).heap.size (some ⟨w6.heap.size,0,none⟩) 1 1 (vtc v) rfl rfl HR7.out (fun u hu=>BM v hu) (by omega) (by unfold maxLen;omega) hBs7 ?_;intro v8 w8 hown8 hg8 hat8;have hS8:=Kj HG7.out HS.out HSv.out (HNl.out) hg8 hown8 hat8;obtain⟨A8,c8,rfl⟩:=Ar hown8;have HX8:Hid (w6.grownBy w8 sv0.ownBlock):=IQ hb67 hg8;have HS8:=AA hS8;clear hS8 hown8 hg8 hat8;refine hK.out _ _ (HX6.out _ HX8.out) (fun hHeld=>?_);clear hK K;try go_frame
    refine tkD 64 21 ?_;go_frame;refine rd1 22 fun K hK=>?_
    rw[if_pos (by rfl)];refine Bw (.tmp 64) (.tmp 63) (by rfl) sb P.mem (.slice A8 (nl+1) c8) (by rfl) (by rfl) HS8.out.2.1 Gf rfl (by rfl) ?_;refine hK.out _ _ (HX6b.out _ _ HX8.out HS8.out.1.2) (fun hHeld=>?_);clear hK K;try go_frame
    refine dnD ?_;have hbB8:Below Bs w w8:=hbB7.grown HS8.out.2.2.1 hBs7 HS8.out.2.2.2;have hsbB:Bs≤sb:=by
     have h1:=HG7.out.srow;rw[show(G.setP i b P2).sv=_ from HSv.out]at h1;exact(h1.lt sb rfl).1
    go_wp2;go_ret;refine⟨hbB8.setCell (p:=⟨sb,P.mem,none⟩) hsbB _,.inr ⟨hvl,rfl,va,.slice A8 (nl+1) c8,L,?_,?_⟩⟩
    ·rw[HL6.out,HL1.out,HSe.out,←HSig.out,Ac];rfl
    ·have h9:=HS8.out.1.1;rw[HP2.out,HP1.out]at h9;exact h9
end
end Go.Proofs.YtadllffeoibelaaGreat
