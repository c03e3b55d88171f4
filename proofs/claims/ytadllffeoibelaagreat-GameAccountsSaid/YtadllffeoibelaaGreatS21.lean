/-
  Parts of the proof. No condition.
-/
import Derived.Test.YtadllffeoibelaaGreatS20
open Go.Proofs.Tryz
namespace Go.Proofs.YtadllffeoibelaaGreat
set_option maxRecDepth 100000
set_option maxHeartbeats 32000000
set_option linter.all false
section
open Go.RowKit
attribute [local go_sem ↓] Go.wp_at_zero Go.wp_at_succ Aj Ao Ap Aq
attribute [local go_sem] Ax BB BC BD AK AR AN
theorem Ih:(prog.info? 56).map (·.size)=some 1:=by kernel_rfl
theorem Cg{w:World}{base e n i:Nat}{v u:Value}{xs:List Value}(h:w.ownsRow base e 1 v n xs)(hx:xs[i]? =some u):∃kb c,v= .slice (some ⟨kb,0,none⟩) n c/\w.cell? ⟨kb,i,none⟩=some u/\(∃cs,Blk w kb e cs)/\i<n:=by
 have hi:=(AE.1 hx).1;rcases h.2 with⟨_,h0⟩|⟨g,cap,cur,hv,h1,h2,h3,h4,h5,h6⟩
 ·have:=h.1;rw[h0]at this;omega
 ·have hin:i<n:=by have:=h.1;omega
  refine⟨g,cap,hv,?_,⟨cur,h2⟩,hin⟩;rw[Blk.cell (show Blk w g e cur from h2),<-hx,<-h6,BP,if_pos (by omega)];simp
theorem Ew{o:Oper}{a:Act}{w:World}(x:Operand)(ho:o.op= .load 56 x)(g i:Nat)(hx:a.eval x= .pointer (some ⟨g,i,none⟩))(u:Value)(hc:w.cell? ⟨g,i,none⟩=some u):(execOp a.eval o).run prog w= .ok (.value u) w:=by
 unfold execOp;rw[ho];simp only[hx];go_simp
theorem Db{op:Oper}{a:Act}{w:World}{K:Act->World->Prop}{Q:Exit->Act->World->Prop}{ty:TypeId}(x y:Operand)(ho:op.op= .store ty x y)(g i:Nat)(u:Value)(hx:a.eval x= .pointer (some ⟨g,i,none⟩))(hy:a.eval y=u)(hB:(∃u0,w.cell? ⟨g,i,none⟩=some u0)/\w.frozen? ⟨g,i,none⟩=false)(hz:(prog.info? ty).map (·.size)=some 1)(h1:u.oneCell'=true)(hd:op.dst=none)(h:K a (w.setCell ⟨g,i,none⟩ u)):op.wp prog a w K Q:=by
 obtain⟨ie,hie,hs⟩:=Option.map_eq_some_iff.1 hz;obtain⟨⟨u0,hu⟩,hf⟩:=hB;have xN:=Lib.rl_storeVar_one (P:=prog) ty ie hie hs ⟨g,i,none⟩ u u0 h1 w hu hf;unfold Oper.wp execOp;simp only[ho,hx,hy,Instr.storeAt,Instr.sureAddr,Sem.run_bind,Sem.run_pure,Result.andThen_ok,xN];have e:a.put op.dst undef=a:=by rw[hd];rfl
 rw[<-e]at h;exact h
theorem Gh{w:World}(v:Value):w.grownBy w.drew v.ownBlock:=⟨rfl,rfl,rfl,AB _,fun _ _ _=>rfl⟩
theorem FU{w:World}(v:Value)(o:Obj):w.grownBy (w.drew.alloc o) v.ownBlock:=by
 have h:w.grownBy (w.drew.alloc o) (some w.heap.size):=Bu ((AC w.heap.size w).drew.alloc (AB _) o);exact⟨h.os,h.tape,h.output,h.size,fun i hi _=>h.block i hi (fun e=>by injection e with e;omega)⟩
theorem KC{w w7 w8:World}{row:Option Nat}(hb:ZN w w7)(hg:w7.grownBy w8 row):w.grownBy w8 row:=⟨hg.os.trans hb.os,hg.tape.trans hb.tape,hg.output.trans hb.output,AG hb.size hg.size,fun i hi hne=>(hg.block i (Nat.lt_of_lt_of_le hi hb.size) hne).trans (hb.block i hi)⟩
theorem YY{v:Vt}(h:Ab v):v.ok:=⟨by have:=h.2.2.2.1;omega,by have:=h.2.2.2.1;omega⟩
def SwG(base:Nat)(v:Vt)(sig:List UInt8)(ok:Bool)(cs:Array Value)(w:World):Prop:=if ok=true then SgG base v sig cs w else cs=Al
theorem SwG.one{base:Nat}{v:Vt}{sig:List UInt8}{ok:Bool}{cs:Array Value}{V:World}(h:SwG base v sig ok cs V):cs.size=23/\∀u∈cs.toList,u.oneCell'=true:=by
 cases ok with
 |true=>exact SgG.one h
 |false=>have h':cs=Al:=h;subst h';exact⟨rfl,fun u hu=>IH hu⟩
theorem SwG.kept{base:Nat}{v:Vt}{sig:List UInt8}{ok:Bool}{cs:Array Value}{V V':World}{r t:Nat}{x:Array Value}(h:SwG base v sig ok cs V)(hB:Blk V r t x)(ht:5≠t)(hg:V.grownBy V' (some r)):SwG base v sig ok cs V':=by
 cases ok with
 |true=>exact SgG.kept h hB ht hg
 |false=>exact h
theorem SwG.below{base:Nat}{v:Vt}{sig:List UInt8}{ok:Bool}{cs:Array Value}{V V':World}(h:SwG base v sig ok cs V)(hb:ZN V V'):SwG base v sig ok cs V':=by
 cases ok with
 |true=>
  obtain⟨A,c,rfl,ho⟩:=(h:SgG base v sig cs V);exact⟨A,c,rfl,Ay ho hb (AB _)⟩
 |false=>exact h
theorem MC{s:Nm}{h m leaf base:Nat}{v:Vt}{w:World}{ok:Bool}(hk:Bg s h m w)(hv:v.ok)(hok:ok=true↔Ab v/\leaf<1024)(yT:base<=w.heap.size):Calls prog 77 #[Az h,.int .i64 (leaf:Int),v.val] w fun e w'=>∃cs,e= .returned (.tuple #[.agg cs,.bool ok])/\SwG base v (Dj s leaf (DU v)) ok cs w'/\w.grownBy w' (some m)/\Bg s h m w':=by
 cases ok with
 |true=>
  obtain⟨hy,hl⟩:=hok.1 rfl;exact(Lm s h m leaf base v w hv hk hl hy yT).mono fun e w' ⟨⟨cs,h1,h2,h3⟩,h4⟩=>⟨cs,h1,h2,h3,h4⟩
 |false=>
  have hn:¬(Ab v/\leaf<1024):=fun x=>by have:=hok.2 x;cases this
  by_cases hy:Ab v
  ·have hl:¬leaf<1024:=fun x=>hn ⟨hy,x⟩
   exact(N2 s h m (leaf:Int) v w hv hk.1 (.inr (by omega)) hy).mono fun e w' ⟨h1,h2⟩=>⟨Al,h1,rfl,Bu h2,hk.below h2⟩
  ·exact(Ml (some ⟨h,0,none⟩) (leaf:Int) v w hv hy).mono fun e w' ⟨h1,h2⟩=>⟨Al,h1,rfl,Bu h2,hk.below h2⟩
theorem YZ(c:Prop):∃ok:Bool,(ok=true↔c):=by
 by_cases h:c
 ·exact⟨true,by simp[h]⟩
 ·exact⟨false,by simp[h]⟩
theorem Mn{Bs g m sb n c nl:Nat}{w w1:World}{G:GmS}{v0 v1:Value}{sl:List Vt}{v:Vt}(h:A9 Bs w g G)(hm:G.sg[m]? =some (v0,sl))(hsv:G.sv= .slice (some ⟨sb,0,none⟩) n c)(hnl:sl.length=nl)(hg:w.grownBy w1 v0.ownBlock)(xA:w1.ownsRow Bs 46 22 v1 (nl+1) (sl.flatMap vtc++vtc v))(hat:v1.ownBlock=v0.ownBlock∨v1.ownBlock=some w.heap.size):(A9 Bs (w1.setCell ⟨sb,m,none⟩ v1) g (G.setS m v1 (sl++[v]))/\w1.grownBy (w1.setCell ⟨sb,m,none⟩ v1) (some sb))/\((∃u,w1.cell? ⟨sb,m,none⟩=some u)/\w1.frozen? ⟨sb,m,none⟩=false)/\w.grownBy w1 v0.ownBlock/\∀k,v0.ownBlock=some k->Bs<=k:=by
 have hCR:w1.ownsRow Bs 46 22 v1 (sl++[v]).length ((sl++[v]).flatMap vtc):=by
  rw[AF,Af,hnl];simpa using xA
 refine⟨h.setS hm hsv hg hCR (hat.imp id fun e=>⟨_,e,AB _⟩),?_,hg,fun k hk=>((h.sgs m _ hm).lt k hk).1⟩;have hs:=h.srow;rw[hsv]at hs;obtain⟨kb,c',hv,hc,⟨cs,hB⟩,hin⟩:=Cg (i:=m) (u:=v0) hs (by rw[AQ,hm];rfl);have hkb:sb=kb:=by
  injection hv with h1
  injection h1 with h1
  injection h1 with h1
 subst hkb;have hB1:Blk w1 sb 56 cs:=hB.kept hg (fun e=>by
  rcases(h.sgs m _ hm).2 with⟨hv',_⟩|⟨g',cap,cur,hv',_,hh,_⟩
  ·rw[show v0=_ from hv']at e;simp[Value.ownBlock]at e
  ·rw[show v0=_ from hv']at e;have:sb=g':=by simpa[Value.ownBlock]using e
   subst this;exact absurd (CW hB hh) (by decide))
 exact⟨⟨v0,by rw[hB1.cell,<-hB.cell];exact hc⟩,hB1.frozen m⟩
theorem Mo{Bs g z:Nat}{w w':World}{G:GmS}{cs:Array Value}(h:A9 Bs w g G)(hZ:Blk w z 62 cs)(hg:w.grownBy w' (some z))(hn:∀(i:Nat) (p:Nat×PrS),G.ps[i]? =some p->p.2.v.ownBlock≠some z):A9 Bs w' g G:=by
 have ho:∀t,t≠62->Off w z t:=fun t ht=>.blk hZ (fun e=>ht e.symm)
 refine⟨h.blk.off hg (ho _ (by decide)),BR h.krow hg (ho _ (by decide)),BR h.prow hg (ho _ (by decide)),BR h.srow hg (ho _ (by decide)),fun j k hk=>⟨?_,(h.keys j k hk).2⟩,fun j p hp=>⟨?_,(h.prs j p hp).2⟩,fun j x hx=>BR (h.sgs j x hx) hg (ho _ (by decide)),h.kn,h.pn,h.sn⟩
 ·have hK:=(h.keys j k hk).1;refine hK.off hg (fun e=>?_) (ho _ (by decide)) (ho _ (by decide));obtain⟨_,_,tl,a3,_⟩:=hK;exact(Off.map a3:Off w k.m 62) _ (e▸hZ)
 ·have hP:=(h.prs j p hp).1;exact⟨hP.blk.off hg (ho _ (by decide)),Bb hP.row hg (fun k hk=>.inr (by injection hk with hk;subst hk;exact hn j p hp)),fun s hs=>(hP.sgs s hs).off hg (ho _ (by decide)),BR hP.dec hg (ho _ (by decide))⟩
theorem Mp{Bs g:Nat}{w:World}{G:GmS}(h:A9 Bs w g G){z:Nat}(hz:w.heap.size<=z)(i:Nat)(p:Nat×PrS)(hp:G.ps[i]? =some p):p.2.v.ownBlock≠some z:=fun e=>by
 have:=((h.prs i p hp).1.row.lt z e).2;omega
theorem Tg{Bs g:Nat}{w w':World}{G:GmS}{cs:Array Value}(h:A9 Bs w g G)(hg:(w.alloc (.cells cs 62)).grownBy w' (some w.heap.size)):A9 Bs w' g G:=
 Mo (h.below ((AC _ w).alloc (AB _) _)) (Blk.new w _ _) hg (Mp h (AB _))
abbrev PrS.signd(P:PrS)(v:Value)(L:List Sg):PrS:={P with v:=v,L:=L,leaf:=P.leaf+1}
def Th(Bs g i b:Nat)(G:GmS)(P:PrS)(k:KyS)(sl:List Vt)(v:Vt)(w:World)(e:Ending)(w':World):Prop:=
 Below Bs w w'/\((¬(Ab v/\P.leaf<1024)/\e= .returned (.bool false)/\A9 Bs w' g G)∨
  ((Ab v/\P.leaf<1024)/\e= .returned (.bool true)/\∃(va vs:Value) (L:List Sg),L.map Sg.vs=B8 (P.L.map Sg.vs++[(v,Dj k.seed P.leaf (DU v))])/\A9 Bs w' g ((G.setP i b (P.signd va L)).setS P.mem vs (sl++[v]))))
theorem Ti{Bs g i b:Nat}{w:World}{G:GmS}{P:PrS}{k:KyS}{sv0:Value}{sl:List Vt}(h:A9 Bs w g G)(hBs:Bs<=w.heap.size)(hi:G.ps[i]? =some (b,P))(hk:G.ks[P.mem]? =some k)(hs:G.sg[P.mem]? =some (sv0,sl))(v:Vt)(hv:v.ok)(hsm:P.L.length<1000000)(hsl:sl.length<1000000):Calls prog 74 #[Az g,Az b,v.val] w (Th Bs g i b G P k sl v w):=by
 obtain⟨w1,hw1⟩:=ZH (w.alloc (.cells v.cells 46));have hb1:ZN w w1:=by rw[hw1];exact(AC _ _).alloc (AB _) _
 have h1:A9 Bs w1 g G:=h.below hb1;obtain⟨q,hq⟩:=ZH w.heap.size;have hV1:Blk w1 q 46 v.cells:=by rw[hw1,hq];exact Blk.new w _ _
 have hqB:Bs<=q:=by omega
 obtain⟨kb,kc,hkv,hkc,⟨kcs,hkB⟩,hkn⟩:=Cg (i:=P.mem) (u:=Az k.h) h1.krow (by rw[AQ,hk];rfl);have hP1:=(h1.prs i _ hi).1;have hK1:=(h1.keys _ k hk).1;have HCs:Hid (∀V,w1.grownBy V (some k.m)->V.cell? ⟨g,10,none⟩=some (.slice (some ⟨kb,0,none⟩) G.ks.length kc)/\V.cell? ⟨b,1,none⟩=some (.int .i64 (P.mem:Int))/\V.cell? ⟨kb,P.mem,none⟩=some (Az k.h)/\V.cell? ⟨b,3,none⟩=some (.int .i64 (P.leaf:Int))/\AJ V q 0 22=some v.cells):=fun V hV=>by
  obtain⟨_,_,tl,hM,_⟩:=hK1;have ho:∀t,Off w1 k.m t:=fun t=>.map hM
  refine⟨?_,(hP1.blk.off hV (ho _)).cell 1,?_,(hP1.blk.off hV (ho _)).cell 3,(hV1.off hV (ho _)).row 22 rfl⟩
  ·rw[<-hkv];exact(h1.blk.off hV (ho _)).cell 10
  ·rw[(hkB.off hV (ho _)).cell,<-hkB.cell];exact hkc
 have hmn:(P.mem:Int)<(G.ks.length:Int):=by omega
 obtain⟨nk,hnk⟩:=ZH G.ks.length;rw[<-hnk]at HCs hmn hkn;obtain⟨ok,hok⟩:∃ok:Bool,(ok=true↔Ab v/\P.leaf<1024):=YZ _;obtain⟨sig,hAB⟩:=ZH (Dj k.seed P.leaf (DU v));have HSW:Hid (∀V,A9 Bs V g G->Bs<=V.heap.size->Calls prog 77 #[Az k.h,.int .i64 (P.leaf:Int),v.val] V fun e w'=>∃cs,e= .returned (.tuple #[.agg cs,.bool ok])/\SwG Bs v sig ok cs w'/\V.grownBy w' (some k.m)/\A9 Bs w' g G):=fun V hV hBV=>by
  rw[hAB];exact(MC (hV.keys _ k hk).1 hv hok hBV).mono fun e w' ⟨cs,a1,a2,a3,a4⟩=>⟨cs,a1,a2,a3,hV.turnM hk a3 a4⟩
 have hFT:=(h1.keys _ k hk).2;have hkm1:k.m<w1.heap.size:=by obtain⟨_,_,tl,hM,_⟩:=hK1;exact hM.lt
 have hBo:Hid (sv0.ownBlock≠some q):=fun e=>by
  have:=((h.sgs _ _ hs).lt q e).2;omega
 have HG1:=AA h1;have HV1:=AA hV1;have HI:=AA hi;have HK:=AA hk;have HS:=AA hs;have HV:=AA hv;have HOk:=AA hok;have hCi:=AA hAB;have HW1:=AA hw1;have HQ:=AA hq;have hFU:Below Bs w w1:=hb1.mono hBs;have yK:Bs<=w1.heap.size:=AG hBs hb1.size;have HMv:Hid (∀V,w1.grownBy V (some k.m)->Blk V q 46 v.cells):=fun V hV=>by
  obtain⟨_,_,tl,hM,_⟩:=hK1;exact hV1.off hV (.map hM)
 have hql:q<w1.heap.size:=hV1.lt;clear h h1 hi hk hs hw1 hq hV1 hkv hkc hkB hP1 hK1 hnk hok hAB hv hb1;go_enter func74,ntmps74;go_upto_region 1 with fail
 simp only[<-HW1.out,<-HQ.out];go_cut[7,8] (fun pv bv wx=>∃z cs,pv= .pointer (some ⟨z,0,none⟩)/\bv= .bool ok/\Blk wx z 62 cs/\SwG Bs v sig ok cs wx/\A9 Bs wx g G/\Blk wx q 46 v.cells/\w1.heap.size<=z/\w1.grownBy wx (some k.m))
 case first=>
  refine rgD (fun V=>V.cell? ⟨g,10,none⟩=some (.slice (some ⟨kb,0,none⟩) nk kc)/\V.cell? ⟨b,1,none⟩=some (.int .i64 (P.mem:Int))/\V.cell? ⟨kb,P.mem,none⟩=some (Az k.h)/\V.cell? ⟨b,3,none⟩=some (.int .i64 (P.leaf:Int))/\AJ V q 0 22=some v.cells) (HCs.out _ (Bd (Am w1 k.m))) fun _=>?_
  iterate 15 (refine tkA ?_;go_frame)
  refine rd2 15 19 (fun K hK=>?_) fun K hK=>?_
  ·go_simp;refine(HSW.out _ (HG1.out.below (AC _ w1).drew) yK).mono ?_;rintro en w3 ⟨cs,rfl,hsw,hg3,zL⟩;have yf:w1.grownBy w3 (some k.m):=(Bd (Am w1 k.m)).trans hg3;have HSw:=AA hsw;have HGm:=AA zL;clear hsw hg3 zL;go_wp2_with fail
   refine hK.out _ _ (HCs.out _ yf) (fun _=>?_);clear hK K;try go_frame
   refine tkD 9 16 ?_;go_frame;refine tkD 26 17 ?_;go_frame;refine tkD 27 18 ?_;go_frame;refine rd1 19 fun K hK=>?_
   go_simp;refine hK.out _ _ (HCs.out _ (Bt yf _)) (fun _=>?_);clear hK K;try go_frame
   refine rd1 20 fun K hK=>?_
   rw[if_pos (by rfl)];refine BN 62 (.tmp 7) (.tmp 26) (by rfl) w3.heap.size cs (by rfl) (by rfl) 62 Al (Blk.new w3 _ _) (by rw[HSw.out.one.1];rfl) (by rw[HSw.out.one.1];exact Bm) HSw.out.one.2 (by rfl) ?_;intro w5 hR5 hg5 yp;have yx:w1.grownBy w5 (some k.m):=(Bt yf _).andThen hg5 (ZJ (.inl yf.size));refine hK.out _ _ (HCs.out _ yx) (fun _=>?_);clear hK K;try go_frame
   refine tkD 8 21 ?_;go_frame;refine dnD ?_;go_wp2_with fail
   go_meet;refine⟨w3.heap.size,cs,rfl,rfl,hR5,(HSw.out.below ((AC _ w3).alloc (AB _) _)).kept (Blk.new w3 _ _) (by decide) hg5,Tg HGm.out hg5,HMv.out _ yx,yf.size,yx⟩
  ·go_simp;refine hK.out _ _ (HCs.out _ (Bt (Bd (Am w1 k.m)) _)) (fun _=>?_);clear hK K;try go_frame
   refine rd1 15 fun K hK=>?_
   go_simp;refine(HSW.out _ (HG1.out.below ((AC _ w1).alloc (AB _) _).drew) (AG yK (by simp))).mono ?_;rintro en w3 ⟨cs,rfl,hsw,hg3,zL⟩;have yf:w1.grownBy w3 (some k.m):=(Bd (Bt (Am w1 k.m) _)).trans hg3;have HSw:=AA hsw;have HGm:=AA zL;have hZ3:Blk w3 w1.heap.size 62 Al:=Blk.kept (w:=(w1.alloc (.cells Al 62)).drew) (Blk.new w1 _ _) hg3 (by intro e;injection e with e;omega);have HZ3:=AA hZ3;clear hsw hg3 zL hZ3;go_wp2_with fail
   refine hK.out _ _ (HCs.out _ yf) (fun _=>?_);clear hK K;try go_frame
   refine tkD 9 16 ?_;go_frame;refine tkD 26 17 ?_;go_frame;refine tkD 27 18 ?_;go_frame;refine rd1 20 fun K hK=>?_
   rw[if_pos (by rfl)];refine BN 62 (.tmp 7) (.tmp 26) (by rfl) w1.heap.size cs (by rfl) (by rfl) 62 Al (HZ3.out) (by rw[HSw.out.one.1];rfl) (by rw[HSw.out.one.1];exact Bm) HSw.out.one.2 (by rfl) ?_;intro w5 hR5 hg5 yp;have yx:w1.grownBy w5 (some k.m):=yf.andThen hg5 (ZJ (.inl (AB _)));refine hK.out _ _ (HCs.out _ yx) (fun _=>?_);clear hK K;try go_frame
   refine tkD 8 21 ?_;go_frame;refine dnD ?_;go_wp2_with fail
   go_meet;refine⟨w1.heap.size,cs,rfl,rfl,hR5,HSw.out.kept (HZ3.out) (by decide) hg5,Mo HGm.out HZ3.out hg5 (Mp HG1.out (AB _)),HMv.out _ yx,AB _,yx⟩
 case rest=>
  obtain⟨z,cs,rfl,rfl,hZ,hsw,hgm,hVq,hz,hg⟩:=hcut;generalize wc=w3 at*;have hEF:Below Bs w w3:=hFU.grown hg yK (ZJ hFT);have zr:Bs<=w3.heap.size:=AG yK hg.size;have HGm:=AA hgm;have HZ:=AA hZ;have HVq:=AA hVq;clear hgm hZ hVq HSW HCs HG1 HV1 hg;cases ok with
  |false=>
   have hlf:¬(Ab v/\P.leaf<1024):=fun x=>by
    have:=HOk.out.2 x;cases this
   go_wp2;go_ret;exact⟨hEF,.inl ⟨hlf,rfl,HGm.out⟩⟩
  |true=>
   have hvl:Ab v/\P.leaf<1024:=HOk.out.1 rfl;have hlf:P.leaf<1024:=hvl.2;obtain⟨A,c,rfl,xA⟩:=(hsw:SgG Bs v sig cs w3);have xK:=AA xA;have hP:=(HGm.out.prs i _ HI.out).1;have y3:w3.cell? ⟨b,3,none⟩=some (.int .i64 (P.leaf:Int)):=hP.blk.cell 3;have y4:w3.frozen? ⟨b,3,none⟩=false:=hP.blk.frozen 3;have hwl:IntKind.i64.wrap ((P.leaf:Int)+1)=(P.leaf:Int)+1:=by rw[IntKind.wrap_i64];omega
   clear xA hP;go_upto_region 5 with fail
   obtain⟨w4,hw4⟩:=ZH (w3.setCell ⟨b,3,none⟩ (.int .i64 ((P.leaf:Int)+1)));rw[<-hw4];replace hw4:w4=w3.setCell ⟨b,3,none⟩ (.int .i64 ((P.leaf+1:Nat):Int)):=hw4;have hg4:w3.grownBy w4 (some b):=by rw[hw4];exact Bl (p:=⟨b,3,none⟩) (Am w3 b) rfl _
   have hbB:Bs<=b:=(HGm.out.prs i _ HI.out).2;obtain⟨P1,hP1⟩:∃P1:PrS,P1={P with leaf:=P.leaf+1}:=⟨_,rfl⟩;have hBt:=(HGm.out.prs i _ HI.out).1.blk;have hA4:DL Bs w4 b P1:=by
    have hP:=(HGm.out.prs i _ HI.out).1;rw[hP1];refine⟨by rw[hw4];exact hP.blk.put 3 _,BR hP.row hg4 (.blk hBt (by decide)),fun s hs=>(hP.sgs s hs).off hg4 (.blk hBt (by decide)),BR hP.dec hg4 (.blk hBt (by decide))⟩
   have hG4:A9 Bs w4 g (G.setP i b P1):=HGm.out.setP HI.out hg4 hA4;have hZ4:Blk w4 z 62 (Sg.mk v sig A c).cells:=HZ.out.off hg4 (.blk hBt (by decide));have hV4:Blk w4 q 46 v.cells:=HVq.out.off hg4 (.blk hBt (by decide));have ho4:Bo w4 Bs (Sg.mk v sig A c):=⟨HV.out,BR xK.out hg4 (.blk hBt (by decide)),by show sig.length<=_;rw[hCi.out,I6];omega⟩;have hBy:Below Bs w w4:=hEF.grown hg4 zr (ZJ hbB);have ya:Bs<=w4.heap.size:=AG zr hg4.size;have HX0:Hid (∀V,w4.grownBy V (some b)->AJ V z 0 23=some (Sg.mk v sig A c).cells):=fun V hV=>(hZ4.off hV (.blk hA4.blk (by decide))).row 23 (Sg.size_cells _)
   have x1:AJ w4.drew z 0 23=some (Sg.mk v sig A c).cells:=hZ4.row 23 (Sg.size_cells _);obtain⟨s,hs⟩:=ZH (Sg.mk v sig A c);rw[<-hs]at x1 hZ4 ho4 HX0;have HX:=HX0;have HG4:=AA hG4;have HA4:=AA hA4;have HZ4:=AA hZ4;have HV4:=AA hV4;have HO4:=AA ho4;have HSe:=AA hs;have HP1:=AA hP1;have hsc:s.cells.size=23:=Sg.size_cells s;have hP1L:P1.L=P.L:=by rw[hP1]
   have hP1m:P1.mem=P.mem:=by rw[hP1]
   have HL1:=AA hP1L;have HM1:=AA hP1m;have hzw:z<w4.heap.size:=HZ4.out.lt;clear hw4 hG4 hA4 hZ4 hV4 ho4 hs hP1 hP1L hP1m hBt hg4 HGm HZ HVq xK y3 y4;obtain⟨w5,hw5⟩:=ZH (w4.drew.alloc (.cells s.cells 62));have xn:ZN w4 w5:=by rw[hw5];exact(AC w4.heap.size w4).drew.alloc (AB _) _
   obtain⟨wb,hwb⟩:=ZH w4.heap.size;have hW5:Blk w5 wb 62 s.cells:=by rw[hw5,hwb];exact Blk.new w4.drew _ _
   have hr5:Rd w5 w5.heap.size (some ⟨wb,0,none⟩) ([s].flatMap sgc):=by
    have:=Rd.of_blk hW5 0 23;rw[List.drop_zero,AT (by rw[Array.length_toList,hsc];exact AB _)]at this;simpa using this
   have hA5:=HA4.out.below xn;have hBP:=AA (Mm hA5 (AG ya xn.size) (some ⟨wb,0,none⟩) 1 1 [s] rfl hr5 (fun s' hs'=>by rw[AU.1 hs'];exact(HO4.out.below xn (AB _)).ok) (by rw[HL1.out];omega));have HG5:=AA (HG4.out.below xn);have HV5:=AA (HV4.out.below xn HV4.out.lt);have HW5:=AA hw5;have HWb:=AA hwb;clear hw5 hwb hW5 hr5 hA5;refine rgD (fun V=>AJ V z 0 23=some s.cells) (x1) fun _=>?_
   iterate 4 (refine tkA ?_;go_frame)
   refine rd1 4 fun K hK=>?_
   rw[if_pos (by rfl)];refine Dw (some 41) rfl 50 62 (.tmp 40) rfl s.cells rfl underlying50 (by rw[hsc];kernel_rfl) (by rw[hsc];decide) (by rw[hsc];decide) ?_;rw[<-HW5.out,show w4.drew.heap.size=wb from HWb.out.symm];refine hK.out _ _ (HX.out w5 (Bu xn)) (fun _=>?_);clear hK K;try go_frame
   refine rd1 5 fun K hK=>?_
   go_simp;refine hBP.out.mono ?_;rintro en w6 ⟨va,L,rfl,hA6,hL6,hg6⟩;go_wp2_with fail
   refine hK.out _ _ (HX.out w6 ((Bu xn).trans hg6)) (fun _=>?_);clear hK K;try go_frame
   refine dnD ?_;go_wp2_with fail
   obtain⟨P2,hP2⟩:=ZH (P1.more va L);rw[<-hP2]at hA6;have hHT:=A9.setP (P:=P1) HG5.out (List.getElem?_set_self (AE.1 HI.out).1) hg6 hA6;have hG6:A9 Bs w6 g (G.setP i b P2):=by
    have e:(G.setP i b P1).setP i b P2=G.setP i b P2:=by simp[GmS.setP,List.set_set]
    rwa[e]at hHT
   have hHU:=(HA4.out.below xn).blk;have hV6:Blk w6 q 46 v.cells:=HV5.out.off hg6 (.blk hHU (by decide));have hbB6:Below Bs w w6:=(hBy.trans (xn.mono ya)).grown hg6 (AG ya xn.size) (ZJ hbB);have hBQ:Bs<=w6.heap.size:=AG ya (AG xn.size hg6.size);have hql6:q<w6.heap.size:=hV6.lt;obtain⟨sb,sc,hsv,hCA,⟨scs,hsB⟩,hsn⟩:=Cg (i:=P.mem) (u:=sv0) hG6.srow (by rw[AQ];show(G.sg[P.mem]?).map _=_;rw[HS.out];rfl);obtain⟨ns,hns⟩:=ZH G.sg.length;have hAC:G.sv= .slice (some ⟨sb,0,none⟩) ns sc:=by rw[hns];exact hsv
   have z1:w6.drew.cell? ⟨g,12,none⟩=some (.slice (some ⟨sb,0,none⟩) ns sc):=by rw[<-hAC];exact hG6.blk.cell 12
   have z2:w6.drew.cell? ⟨b,1,none⟩=some (.int .i64 (P.mem:Int)):=by
    have:=hA6.blk.cell 1;rw[hP2]at this;rw[<-HM1.out];exact this
   have z3:w6.drew.cell? ⟨sb,P.mem,none⟩=some sv0:=hCA;have z4:AJ w6.drew q 0 22=some v.cells:=hV6.row 22 rfl;have hsn':(P.mem:Int)<(ns:Int):=by rw[hns];have:P.mem<G.sg.length:=hsn;omega
   have xi:w6.ownsRow Bs 46 22 sv0 sl.length (sl.flatMap vtc):=hG6.sgs P.mem (sv0,sl) HS.out;have HG6:=AA hG6;have yQ:=AA xi;have HSv:=AA hAC;have HL6:=AA hL6;have HP2:=AA hP2;have HsB:=AA hsB;obtain⟨nl,hnl⟩:=ZI sl.length;rw[hnl]at hsl;have HNl:=AA hnl;obtain⟨AS,cS,hAn⟩:=Av xi;rw[hnl]at hAn;have HX6:Hid (∀V,w6.grownBy V sv0.ownBlock->V.cell? ⟨g,12,none⟩=some (.slice (some ⟨sb,0,none⟩) ns sc)/\V.cell? ⟨b,1,none⟩=some (.int .i64 (P.mem:Int))/\AJ V q 0 22=some v.cells):=fun V hV=>by
    have o1:∀(k:Nat) (t:TypeId),sv0.ownBlock=some k->t≠46->Off w6 k t:=fun k t hk ht=>by
     rcases xi.2 with⟨hv,_⟩|⟨g',cap,cur,hv,_,hh,_⟩
     ·rw[hv]at hk;simp[Value.ownBlock]at hk
     ·rw[hv]at hk;have:g'=k:=by simpa[Value.ownBlock]using hk
      subst this;exact .blk hh (fun e=>ht e.symm)
    have bk:∀{b' t:Nat} {cs:Array Value},t≠46->Blk w6 b' t cs->Blk V b' t cs:=fun ht hB=>hB.kept hV (fun e=>o1 _ _ e.symm ht _ hB)
    refine⟨by rw[<-hAC];exact(bk (by decide) hG6.blk).cell 12,?_,(hV6.kept hV (fun e=>hBo.out e.symm)).row 22 rfl⟩;have:=(bk (by decide) hA6.blk).cell 1;rw[hP2]at this;rw[<-HM1.out];exact this
   have HX6b:Hid (∀V V',w6.grownBy V sv0.ownBlock->V.grownBy V' (some sb)->V'.cell? ⟨g,12,none⟩=some (.slice (some ⟨sb,0,none⟩) ns sc)/\V'.cell? ⟨b,1,none⟩=some (.int .i64 (P.mem:Int))/\AJ V' q 0 22=some v.cells):=fun V V' hV hV'=>by
    have o1:∀(k:Nat) (t:TypeId),sv0.ownBlock=some k->t≠46->Off w6 k t:=fun k t hk ht=>by
     rcases xi.2 with⟨hv,_⟩|⟨g',cap,cur,hv,_,hh,_⟩
     ·rw[hv]at hk;simp[Value.ownBlock]at hk
     ·rw[hv]at hk;have:g'=k:=by simpa[Value.ownBlock]using hk
      subst this;exact .blk hh (fun e=>ht e.symm)
    have bk:∀{b' t:Nat} {cs:Array Value},t≠46->Blk w6 b' t cs->Blk V b' t cs:=fun ht hB=>hB.kept hV (fun e=>o1 _ _ e.symm ht _ hB)
    have hsV:=bk (by decide) hsB;refine⟨by rw[<-hAC];exact((bk (by decide) hG6.blk).off hV' (.blk hsV (by decide))).cell 12,?_,((hV6.kept hV (fun e=>hBo.out e.symm)).off hV' (.blk hsV (by decide))).row 22 rfl⟩;have:=((bk (by decide) hA6.blk).off hV' (.blk hsV (by decide))).cell 1;rw[hP2]at this;rw[<-HM1.out];exact this
   have HCz:Hid (((w6.drew).alloc (.cells v.cells 46)).cell? ⟨sb,P.mem,none⟩=some sv0):=by
    unfold Hid;rw[(Blk.alloc (w:=w6.drew) hsB _).cell,<-hsB.cell];exact hCA
   have hCj:=AA hAn;clear hHT hG6 hV6 xi hsv hAC hsB hsn hns hL6 hP2 hA6 hg6 hHU hBP HG5 HV5 HW5 HA4 HZ4 HV4 HO4 x1 hCA hnl;rw[hAn]at z3 HCz;clear hAn;have zM:ZN w6 ((w6.drew).alloc (.cells v.cells 46)):=(AC w6.heap.size w6).drew.alloc (AB _) _;have HG7:=AA (HG6.out.below zM);have xU:Hid (((w6.drew).alloc (.cells v.cells 46)).ownsRow Bs 46 22 sv0 nl (sl.flatMap vtc)):=by unfold Hid;rw[<-HNl.out];exact Ay yQ.out zM (AB _)
   have HR7:Hid (Rd ((w6.drew).alloc (.cells v.cells 46)) ((w6.drew).alloc (.cells v.cells 46)).heap.size (some ⟨w6.heap.size,0,none⟩) (vtc v)):=by
    have hB:Blk ((w6.drew).alloc (.cells v.cells 46)) w6.heap.size 46 v.cells:=Blk.new w6.drew _ _;exact Rd.mk hB.lt (fun j u hu=>by rw[Nat.zero_add,hB.cell];simpa using hu)
   have hCk:Below Bs w ((w6.drew).alloc (.cells v.cells 46)):=hbB6.trans (zM.mono hBQ);have hAD:Bs<=((w6.drew).alloc (.cells v.cells 46)).heap.size:=AG hBQ zM.size;refine rgD (fun V=>V.cell? ⟨g,12,none⟩=some (.slice (some ⟨sb,0,none⟩) ns sc)/\V.cell? ⟨b,1,none⟩=some (.int .i64 (P.mem:Int))/\AJ V q 0 22=some v.cells) (HX6.out _ (Gh sv0)) fun _=>?_
   iterate 17 (refine tkA ?_;go_frame)
   refine tkD 61 18 ?_;go_frame;refine rd2 17 19 (fun K hK=>?_) fun K hK=>?_
   ·rw[if_pos (by rfl)];refine CC (.slice AS nl cS) (Ew (.tmp 59) rfl sb P.mem rfl _ (z3)) ?_;refine hK.out _ _ (HX6.out _ (Gh sv0)) (fun _=>?_);clear hK K;try go_frame
    refine rd1 19 fun K hK=>?_
    rw[if_pos (by rfl)];refine Dw (some 62) rfl 56 46 (.tmp 61) rfl v.cells rfl underlying56 (by kernel_rfl) (by simp) (by simp) ?_;refine hK.out _ _ (HX6.out _ (FU sv0 _)) (fun _=>?_);clear hK K;try go_frame
    refine rd1 20 fun K hK=>?_
    rw[if_pos (by rfl)];refine Ft (some 63) rfl (.tmp 60) (.tmp 62) 56 rfl Bs 46 (.agg Bi.cells) 22 64 underlying56 CG rfl (by decide) sv0 nl (sl.flatMap vtc) hCj.out.symm xU.out ((w6.drew).alloc (.cells v.cells 46)).heap.size (some ⟨w6.heap.size,0,none⟩) 1 1 (vtc v) rfl rfl HR7.out (fun u hu=>BO v hu) (by omega) (by unfold maxLen;omega) hAD ?_;intro v8 w8 xf hg8 zs;have hS8:=Mn HG7.out HS.out HSv.out (HNl.out) hg8 xf zs;obtain⟨A8,c8,rfl⟩:=Av xf;have HX8:Hid (w6.grownBy w8 sv0.ownBlock):=KC zM hg8;have HS8:=AA hS8;clear hS8 xf hg8 zs;refine hK.out _ _ (HX6.out _ HX8.out) (fun _=>?_);clear hK K;try go_frame
    refine tkD 64 21 ?_;go_frame;refine rd1 22 fun K hK=>?_
    rw[if_pos (by rfl)];refine Db (.tmp 64) (.tmp 63) (by rfl) sb P.mem (.slice A8 (nl+1) c8) (by rfl) (by rfl) HS8.out.2.1 Ih rfl (by rfl) ?_;refine hK.out _ _ (HX6b.out _ _ HX8.out HS8.out.1.2) (fun _=>?_);clear hK K;try go_frame
    refine dnD ?_;have hCB:Below Bs w w8:=hCk.grown HS8.out.2.2.1 hAD HS8.out.2.2.2;have zU:Bs<=sb:=by
     have h1:=HG7.out.srow;rw[show(G.setP i b P2).sv=_ from HSv.out]at h1;exact(h1.lt sb rfl).1
    go_wp2;go_ret;refine⟨hCB.setCell (p:=⟨sb,P.mem,none⟩) zU _,.inr ⟨hvl,rfl,va,.slice A8 (nl+1) c8,L,?_,?_⟩⟩
    ·rw[HL6.out,HL1.out,HSe.out,<-hCi.out,Ae];rfl
    ·have h9:=HS8.out.1.1;rw[HP2.out,HP1.out]at h9;exact h9
   ·rw[if_pos (by rfl)];refine Dw (some 62) rfl 56 46 (.tmp 61) rfl v.cells rfl underlying56 (by kernel_rfl) (by simp) (by simp) ?_;refine hK.out _ _ (HX6.out _ (FU sv0 _)) (fun _=>?_);clear hK K;try go_frame
    refine rd1 17 fun K hK=>?_
    rw[if_pos (by rfl)];refine CC (.slice AS nl cS) (Ew (.tmp 59) rfl sb P.mem rfl _ ((HCz.out))) ?_;refine hK.out _ _ (HX6.out _ (FU sv0 _)) (fun _=>?_);clear hK K;try go_frame
    refine rd1 20 fun K hK=>?_
    rw[if_pos (by rfl)];refine Ft (some 63) rfl (.tmp 60) (.tmp 62) 56 rfl Bs 46 (.agg Bi.cells) 22 64 underlying56 CG rfl (by decide) sv0 nl (sl.flatMap vtc) hCj.out.symm xU.out ((w6.drew).alloc (.cells v.cells 46)).heap.size (some ⟨w6.heap.size,0,none⟩) 1 1 (vtc v) rfl rfl HR7.out (fun u hu=>BO v hu) (by omega) (by unfold maxLen;omega) hAD ?_;intro v8 w8 xf hg8 zs;have hS8:=Mn HG7.out HS.out HSv.out (HNl.out) hg8 xf zs;obtain⟨A8,c8,rfl⟩:=Av xf;have HX8:Hid (w6.grownBy w8 sv0.ownBlock):=KC zM hg8;have HS8:=AA hS8;clear hS8 xf hg8 zs;refine hK.out _ _ (HX6.out _ HX8.out) (fun _=>?_);clear hK K;try go_frame
    refine tkD 64 21 ?_;go_frame;refine rd1 22 fun K hK=>?_
    rw[if_pos (by rfl)];refine Db (.tmp 64) (.tmp 63) (by rfl) sb P.mem (.slice A8 (nl+1) c8) (by rfl) (by rfl) HS8.out.2.1 Ih rfl (by rfl) ?_;refine hK.out _ _ (HX6b.out _ _ HX8.out HS8.out.1.2) (fun _=>?_);clear hK K;try go_frame
    refine dnD ?_;have hCB:Below Bs w w8:=hCk.grown HS8.out.2.2.1 hAD HS8.out.2.2.2;have zU:Bs<=sb:=by
     have h1:=HG7.out.srow;rw[show(G.setP i b P2).sv=_ from HSv.out]at h1;exact(h1.lt sb rfl).1
    go_wp2;go_ret;refine⟨hCB.setCell (p:=⟨sb,P.mem,none⟩) zU _,.inr ⟨hvl,rfl,va,.slice A8 (nl+1) c8,L,?_,?_⟩⟩
    ·rw[HL6.out,HL1.out,HSe.out,<-hCi.out,Ae];rfl
    ·have h9:=HS8.out.1.1;rw[HP2.out,HP1.out]at h9;exact h9
def EK(D:List Vt):List Nm:=(D.filter fun x=>decide (x.kind=1)).map (·.value)
def Gy(par:Nm)(m:Nat)(D:List Vt):Bool:=D.any fun x=>decide (x.kind=1)&&(decide (x.parent=par)&&(decide (x.signer=(m:Int))&&decide (x.slot=(m:Int))))
theorem Rq(D:List Vt)(x:Vt):EK (D++[x])=if x.kind=1 then EK D++[x.value]else EK D:=by
 unfold EK;rw[List.filter_append,Ae];by_cases h:x.kind=1 <;> simp[h]
theorem Rr(par:Nm)(m:Nat)(D:List Vt)(x:Vt):Gy par m (D++[x])=(Gy par m D||(decide (x.kind=1)&&(decide (x.parent=par)&&(decide (x.signer=(m:Int))&&decide (x.slot=(m:Int)))))):=by
 unfold Gy;rw[List.any_append];simp
def KD(D:List Vt)(par:Nm)(m:Nat)(w:World)(e:Ending)(w':World):Prop:=
 ∃(v:Value),e= .returned (.tuple #[v,.bool (Gy par m D)])/\w'.ownsRow w.heap.size 24 8 v (EK D).length ((EK D).flatMap nmc)/\ZN w w'
def Xa(D:List Vt)(par:Nm)(m:Nat)(w:World)(v ov iv:Value)(wr:World):Prop:=
 ∃(i:Nat) (L:List Nm) (d:Bool),iv= .int .i64 (i:Int)/\ov= .bool d/\i<=D.length/\L.length<=i/\L=EK (D.take i)/\d=Gy par m (D.take i)/\wr.ownsRow w.heap.size 24 8 v L.length (L.flatMap nmc)/\ZN w wr
theorem Mq{Bs g i0 b:Nat}{w:World}{G:GmS}{P:PrS}(h:A9 Bs w g G)(hi:G.ps[i0]? =some (b,P))(hsm:P.L.length<=1000000):Calls prog 73 #[Az g,Az b] w (KD (JH (P.L.map Sg.vs)) G.par P.mem w):=by
 have hP:=(h.prs _ _ hi).1;have HVs:=AA (Hw hP hsm);have HS:Hid (∀V,ZN w V->AJ V g 2 8=some G.par.cells/\V.cell? ⟨b,1,none⟩=some (.int .i64 (P.mem:Int))):=fun V hV=>⟨(h.below hV).row_par,((h.below hV).prs _ _ hi).1.blk.cell 1⟩
 obtain⟨D,hD⟩:=ZH (JH (P.L.map Sg.vs));have hD6:D.length<=1000000:=by
  have:=D9 (P.L.map Sg.vs);rw[AX]at this;rw[hD];unfold JH;rw[AX];omega
 rw[<-hD]at HVs ⊢;obtain⟨par,zt⟩:=ZH G.par;obtain⟨mm,hmm⟩:=ZH P.mem;rw[<-zt,<-hmm]at HS ⊢;clear h hi hP hD hsm zt hmm;go_enter func73,ntmps73;go_wp2_with (go_at_call 44;refine HVs.out.mono ?_;rintro en w2 ⟨v2,rfl,hb2,xG⟩;obtain⟨A2,c2,rfl,hR2⟩:=Bj xG;have HR2:=AA hR2;obtain⟨n,hn⟩:=ZI D.length;rw[hn]at hD6 ⊢;have HN:=AA hn;clear xG hR2 hn)
 go_loopw [6,7,15] (fun v ov iv wr=>Xa D par mm w2 v ov iv wr) (fun _ _ iv _=>n-(intOf iv).toNat)
 case atStart=>exact⟨0,[],false,rfl,rfl,Nat.zero_le _,Nat.zero_le _,rfl,rfl,⟨by simp,.inl ⟨rfl,rfl⟩⟩,AC _ _⟩
 case round=>
  obtain⟨i,L,d,rfl,rfl,hin,hLi,hL,hd,xA,hbw⟩:=hrel;rw[HN.out]at hin;have HL:=AA hL;have HDd:=AA hd;have xK:=AA xA;have hL6:L.length<=1000000:=by omega
  have yV:=hb2.trans (hbw.mono hb2.size);clear hL hd xA;by_cases hi:i<n
  ·have di:=ZK (show i<n by omega)
   obtain⟨x,hx⟩:∃x,D[i]? =some x:=⟨_,AD (by rw[HN.out];exact hi)⟩;obtain⟨b0,o,rfl,hb,xH⟩:=HR2.out.cells (by intro e;have:=AY vtc 22 D (Cd D);rw[e,HN.out]at this;simp at this;omega);clear xH;have x1:AJ wr b0 (o+i*22) 22=some x.cells:=(HR2.out.below hbw).voteRow hx;have hNx:EK (D.take (i+1))=if x.kind=1 then L++[x.value]else L:=by rw[Ai,hx,BX,Rq,<-HL.out]
   have hOx:Gy par mm (D.take (i+1))=(d||(decide (x.kind=1)&&(decide (x.parent=par)&&(decide (x.signer=(mm:Int))&&decide (x.slot=(mm:Int)))))):=by rw[Ai,hx,BX,Rr,<-HDd.out]
   have HNx:=AA hNx;have HOx:=AA hOx;clear hx hNx hOx;go_upto_region 6 with(refine AI rfl 46 (.tmp 9) (.tmp 18) rfl wr.heap.size x.cells rfl rfl 46 Bi.cells (Blk.new wr _ _) (by rfl) (by kernel_rfl) (fun u hu=>BO x hu) ?_;intro w4 hB4 hg4 xc)
   have xM:Hid (w4.ownsRow w2.heap.size 24 8 u6 L.length (L.flatMap nmc)):=Bb (xK.out.alloc _) hg4 (fun k hk=>by
    injection hk with hk
    subst hk;right;intro e;have:=(xK.out.lt _ e).2;omega)
   have xE:ZN w2 w4:=(hbw.alloc hbw.size _).grown hg4 (AG hbw.size (by simp)) (ZJ hbw.size);obtain⟨z,hz⟩:=ZH wr.heap.size;rw[<-hz]at hB4 ⊢;have x4:w4.cell? ⟨z,0,none⟩=some (.int .i64 x.kind):=hB4.cell 0;have x5:AJ w4 z 14 8=some x.value.cells:=x.row_value hB4;have HZ4:=AA hB4;clear hB4 hg4 xc x1 hz xK hbw yV;try go_frame
   by_cases h1:x.kind=1
   rotate_left
   ·have e1:(x.kind==1)=false:=by simpa using h1
    have hBO:Hid (L=EK (D.take (i+1))):=by unfold Hid;rw[HNx.out,if_neg h1]
    have hCC:Hid (d=Gy par mm (D.take (i+1))):=by unfold Hid;rw[HOx.out,decide_eq_false h1];simp
    clear h1;go_wp2;go_roundw
    case rel=>exact⟨i+1,L,d,by go_num,rfl,by rw[HN.out];omega,by omega,hBO.out,hCC.out,xM.out,xE⟩
    case measure=>simp[intOf];omega
   have e1:(x.kind==1)=true:=by rw[h1];rfl
   have hBO:Hid (L++[x.value]=EK (D.take (i+1))):=by unfold Hid;rw[HNx.out,if_pos h1]
   have hCC:Hid (Gy par mm (D.take (i+1))=(d||(decide (x.parent=par)&&(decide (x.signer=(mm:Int))&&decide (x.slot=(mm:Int)))))):=by unfold Hid;rw[HOx.out,decide_eq_true h1,Bool.true_and]
   clear h1 HNx HOx;go_wp2_with ((first
    |(refine BS rfl 75 24 (.tmp 24) rfl x.value.cells rfl underlying75 (by kernel_rfl) (by decide) (by decide) ?_)
    |(at_builtin;refine Ar rfl (.tmp 22) (.tmp 25) _ rfl w2.heap.size 24 (Nm.val ⟨0,0,0,0,0,0,0,0⟩) 8 8 underlying75 DB rfl (by decide) u6 L.length (L.flatMap nmc) rfl ?r0 (w4.heap.size+1) (some ⟨w4.heap.size,0,none⟩) 1 1 (nmc x.value) rfl ?r1 ?r2 ?r3 ?r4 ?r5 ?r6 ?_)))
   case r0=>exact xM.out.alloc _
   case r1=>rfl
   case r2=>exact Rd.mk (by omega) (fun j u hu=>by rw[Nat.zero_add,(Blk.new w4 _ _).cell];simpa using hu)
   case r3=>exact fun u hu=>KA x.value hu
   case r4=>omega
   case r5=>unfold maxLen;omega
   case r6=>have:=xE.size;simp;omega
   intro v7 w7 xL hg7 xr;have yR:ZN w2 w7:=BJ (xE.alloc xE.size _) (xM.out.alloc _) hg7;have HZ7:Hid (Blk w7 z 46 x.cells):=(HZ4.out.alloc _).kept hg7 (CJ xM.out HZ4.out (by decide));have xU:Hid (w7.ownsRow w2.heap.size 24 8 v7 (L++[x.value]).length ((L++[x.value]).flatMap nmc)):=by
    unfold Hid;rw[AF,Af];simpa using xL
   have xb:=hb2.trans (yR.mono hb2.size);have HX:Hid (AJ w7.drew z 6 8=some x.parent.cells/\w7.drew.cell? ⟨z,4,none⟩=some (.int .i64 x.signer)/\w7.drew.cell? ⟨z,1,none⟩=some (.int .i64 x.slot)/\AJ w7.drew g 2 8=some par.cells/\w7.drew.cell? ⟨b,1,none⟩=some (.int .i64 (mm:Int))):=
    ⟨x.row_parent HZ7.out,HZ7.out.cell 4,HZ7.out.cell 1,(HS.out _ xb).1,(HS.out _ xb).2⟩
   have hEG:ZN w2 w7.drew:=yR.drew;have hEH:Hid (w7.drew.ownsRow w2.heap.size 24 8 v7 (L++[x.value]).length ((L++[x.value]).flatMap nmc)):=xU.out;have hLx:(L++[x.value]).length<=i+1:=by rw[AF,List.length_singleton];omega
   clear xL hg7 xr x4 x5 xM xU;obtain⟨dP,hdP⟩:=ZH (decide (x.parent=par));obtain⟨dS,hdS⟩:=ZH (decide (x.signer=(mm:Int)));obtain⟨dL,hdL⟩:=ZH (decide (x.slot=(mm:Int)));have eP:∀W,(Op.equalIn 10000 24 (.agg x.parent.cells) (.agg par.cells)).run prog W= .ok dP W:=fun W=>by rw[hdP];exact ED x.parent par W 9998
   have eS:(x.signer==(mm:Int))=dS:=by rw[hdS];rfl
   have eL:(x.slot==(mm:Int))=dL:=by rw[hdL];rfl
   rw[<-hdP,<-hdS,<-hdL]at hCC;clear hdP hdS hdL;go_upto_region 8 with fail
   cases d with
   |true=>
    refine rgD (fun V=>AJ V z 6 8=some x.parent.cells/\V.cell? ⟨z,4,none⟩=some (.int .i64 x.signer)/\V.cell? ⟨z,1,none⟩=some (.int .i64 x.slot)/\AJ V g 2 8=some par.cells/\V.cell? ⟨b,1,none⟩=some (.int .i64 (mm:Int))) (HX.out) fun _=>?_
    iterate 2 (refine tkA ?_;go_frame)
    refine skD 29 2 ?_;go_frame;refine skD 30 3 ?_;go_frame;refine skD 31 4 ?_;go_frame;refine skD 32 5 ?_;go_frame;refine skD 33 6 ?_;go_frame;refine skD 34 7 ?_;go_frame;refine skD 35 8 ?_;go_frame;refine skD 36 9 ?_;go_frame;refine skD 37 10 ?_;go_frame;refine skD 38 11 ?_;go_frame;refine skD 39 12 ?_;go_frame;refine skD 40 13 ?_;go_frame;refine skD 41 14 ?_;go_frame;refine skD 42 15 ?_;go_frame;refine skD 43 16 ?_;go_frame;refine skD 44 17 ?_;go_frame;refine skD 45 18 ?_;go_frame;refine skD 46 19 ?_;go_frame;refine skD 47 20 ?_;go_frame;refine skD 48 21 ?_;go_frame;refine skD 49 22 ?_;go_frame;refine skD 50 23 ?_;go_frame;refine skD 51 24 ?_;go_frame;refine skD 52 25 ?_;go_frame;refine skD 53 26 ?_;go_frame
    iterate 2 (refine tkA ?_;go_frame)
    refine dnD ?_;go_wp2;go_roundw
    case rel=>exact⟨i+1,_,true,by go_num,rfl,by rw[HN.out];omega,hLx,hBO.out,by rw[hCC.out];simp,hEH.out,hEG⟩
    case measure=>simp[intOf];omega
   |false=>
    cases dP with
    |false=>
     refine rgD (fun V=>AJ V z 6 8=some x.parent.cells/\V.cell? ⟨z,4,none⟩=some (.int .i64 x.signer)/\V.cell? ⟨z,1,none⟩=some (.int .i64 x.slot)/\AJ V g 2 8=some par.cells/\V.cell? ⟨b,1,none⟩=some (.int .i64 (mm:Int))) (HX.out) fun _=>?_
     iterate 10 (refine tkA ?_;go_frame)
     refine skD 37 10 ?_;go_frame;refine skD 38 11 ?_;go_frame;refine skD 39 12 ?_;go_frame;refine skD 40 13 ?_;go_frame;refine skD 41 14 ?_;go_frame;refine skD 42 15 ?_;go_frame;refine skD 43 16 ?_;go_frame
     iterate 2 (refine tkA ?_;go_frame)
     refine skD 46 19 ?_;go_frame;refine skD 47 20 ?_;go_frame;refine skD 48 21 ?_;go_frame;refine skD 49 22 ?_;go_frame;refine skD 50 23 ?_;go_frame;refine skD 51 24 ?_;go_frame;refine skD 52 25 ?_;go_frame
     iterate 3 (refine tkA ?_;go_frame)
     refine dnD ?_;go_wp2;go_roundw
     case rel=>exact⟨i+1,_,false,by go_num,rfl,by rw[HN.out];omega,hLx,hBO.out,by rw[hCC.out];simp,hEH.out,hEG⟩
     case measure=>simp[intOf];omega
    |true=>
     cases dS with
     |false=>
      refine rgD (fun V=>AJ V z 6 8=some x.parent.cells/\V.cell? ⟨z,4,none⟩=some (.int .i64 x.signer)/\V.cell? ⟨z,1,none⟩=some (.int .i64 x.slot)/\AJ V g 2 8=some par.cells/\V.cell? ⟨b,1,none⟩=some (.int .i64 (mm:Int))) (HX.out) fun _=>?_
      iterate 19 (refine tkA ?_;go_frame)
      refine skD 46 19 ?_;go_frame;refine skD 47 20 ?_;go_frame;refine skD 48 21 ?_;go_frame;refine skD 49 22 ?_;go_frame;refine skD 50 23 ?_;go_frame;refine skD 51 24 ?_;go_frame;refine skD 52 25 ?_;go_frame
      iterate 3 (refine tkA ?_;go_frame)
      refine dnD ?_;go_wp2;go_roundw
      case rel=>exact⟨i+1,_,false,by go_num,rfl,by rw[HN.out];omega,hLx,hBO.out,by rw[hCC.out];simp,hEH.out,hEG⟩
      case measure=>simp[intOf];omega
     |true=>
      refine rgD (fun V=>AJ V z 6 8=some x.parent.cells/\V.cell? ⟨z,4,none⟩=some (.int .i64 x.signer)/\V.cell? ⟨z,1,none⟩=some (.int .i64 x.slot)/\AJ V g 2 8=some par.cells/\V.cell? ⟨b,1,none⟩=some (.int .i64 (mm:Int))) (HX.out) fun _=>?_
      iterate 29 (refine tkA ?_;go_frame)
      refine dnD ?_;go_wp2;go_roundw
      case rel=>exact⟨i+1,_,dL,by go_num,rfl,by rw[HN.out];omega,hLx,hBO.out,by rw[hCC.out];simp,hEH.out,hEG⟩
      case measure=>simp[intOf];omega
  ·have di:=ZL (show n<=i by omega)
   have hLa:L=EK D:=by rw[HL.out,AT (by rw[HN.out];omega)]
   have hDa:d=Gy par mm D:=by rw[HDd.out,AT (by rw[HN.out];omega)]
   have HLa:=AA hLa;have HDa:=AA hDa;clear hLa hDa HL HDd;go_wp2;go_ret2;exact⟨u6,by first|rfl|(rw[HDa.out];rfl)|simp[HDa.out],by rw[<-HLa.out];exact BE xK.out hb2.size,yV⟩
end
section

abbrev PrS.D(P:PrS):List Vt:=JH (P.L.map Sg.vs)
abbrev N4(par:Nm)(mem:Nat)(pay:Nm):Vt:=⟨1,(mem:Int),0,1,(mem:Int),0,par,pay⟩
abbrev GmS.actd(G:GmS)(i b:Nat)(P:PrS):GmS:=G.setP i b {P with acts:=P.acts+1}
def N5(i:Nat)(v:Vt)(G G':GmS):Prop:=∃(b:Nat) (P:PrS) (k:KyS) (sv0:Value) (sl:List Vt) (va vs:Value) (L:List Sg),
 G.ps[i]? =some (b,P)/\G.ks[P.mem]? =some k/\G.sg[P.mem]? =some (sv0,sl)/\(Ab v/\P.leaf<1024)/\L.map Sg.vs=B8 (P.L.map Sg.vs++[(v,Dj k.seed P.leaf (DU v))])/\G'=(G.setP i b (P.signd va L)).setS P.mem vs (sl++[v])
def PX(i:Nat)(G:GmS)(o:Option Vt):Prop:=∃(b:Nat) (P:PrS),G.ps[i]? =some (b,P)/\Dp G.M G.par (P.mem:Int) P.D (EK P.D) (decide (2<P.acts)) o
structure Fn (i b m0:Nat)(a0:Int)(p0:Nm)(M0:Int)(y0:Nm)(ks0:List KyS)(c:Nat)(G:GmS)(P:PrS):Prop where
 hi:G.ps[i]? =some (b,P)
 mem:P.mem=m0
 acts:P.acts=a0
 pay:P.pay=y0
 par:G.par=p0
 M:G.M=M0
 ks:G.ks=ks0
 sg:∃x:Value×List Vt,G.sg[m0]? =some x/\x.2.length<=c+P.leaf
 len:P.L.length<=c+P.leaf
 val:∀x∈P.L,Ab x.vote
 lf:P.leaf<=1024
theorem Dc(l:List VS)(x:Vt):x∈JH l↔x∈l.map (·.1):=by
 unfold JH;rw[List.mem_map,List.mem_map];constructor
 ·rintro⟨y,hy,rfl⟩;exact⟨y,(DE l).sub y hy,rfl⟩
 ·rintro⟨y,hy,rfl⟩;obtain⟨z,hz,e,_⟩:=(DE l).dom y hy;exact⟨z,hz,e⟩
theorem PrS.D_valid{P:PrS}(h:∀x∈P.L,Ab x.vote):∀v∈P.D,Ab v:=fun v hv=>by
 have:=(Dc (P.L.map Sg.vs) v).1 hv;simp only[List.map_map,List.mem_map,Function.comp_apply]at this;obtain⟨x,hx,rfl⟩:=this;exact h x hx
theorem Dp.due{M:Int}{p:Nm}{f:Int}{l:List Vt}{H:List Nm}{wt:Bool}{v:Vt}(hl:∀v∈l,Ab v)(h:Dp M p f l H wt (some v)):∃s,s<=9/\Rg s p f (owF s p f l) v:=by
 obtain⟨s,hs,_,h⟩:=h;exact⟨s,hs,h.due hl hs⟩
theorem N5.actK{i b mem c:Nat}{acts M:Int}{par pay:Nm}{ks:List KyS}{G G':GmS}{P:PrS}{v:Vt}(h:N5 i v G G')(k:Fn i b mem acts par M pay ks c G P):∃P',Fn i b mem acts par M pay ks c G' P'/\P'.leaf=P.leaf+1/\P.leaf<1024:=by
 obtain⟨b',P0,k0,sv0,sl,va,vs,L,h1,h2,h3,h4,h5,rfl⟩:=h;rw[k.hi]at h1;injection h1 with h1
 injection h1 with h1 h1'
 subst h1;subst h1';have hil:=(AE.1 k.hi).1;have hml:=(AE.1 h3).1;have hlen:L.length=(L.map Sg.vs).length:=by rw[AX]
 have hcl:=D9 (P.L.map Sg.vs++[(v,Dj k0.seed P.leaf (DU v))]);rw[AF,AX]at hcl;refine⟨P.signd va L,⟨List.getElem?_set_self hil,k.mem,k.acts,k.pay,k.par,k.M,k.ks,?_,?_,fun x hx=>?_,by have:=h4.2;show P.leaf+1<=1024;omega⟩,rfl,h4.2⟩
 ·obtain⟨x,hx,hx2⟩:=k.sg;rw[<-k.mem,h3]at hx;injection hx with hx
  subst hx;refine⟨(vs,sl++[v]),by rw[<-k.mem];exact List.getElem?_set_self hml,?_⟩;show(sl++[v]).length<=c+(P.leaf+1);have:sl.length<=c+P.leaf:=hx2;simp;omega
 ·show L.length<=c+(P.leaf+1);rw[hlen,h5];have:=k.len;simp at hcl;omega
 ·have hm:x.vs∈L.map Sg.vs:=List.mem_map_of_mem hx;rw[h5]at hm;have:=(DE _).sub _ hm;rcases AP.1 this with h|h
  ·obtain⟨y,hy,he⟩:=List.mem_map.1 h;have:y.vote=x.vote:=congrArg Prod.fst he;exact this▸k.val y hy
  ·have:x.vote=v:=congrArg Prod.fst (AU.1 h);exact this▸h4.1

def Wn(u v:Vt):Prop:=u.kind=v.kind/\u.slot=v.slot/\u.round=v.round/\u.signer=v.signer/\u.parent=v.parent
abbrev GmS.hb(G:GmS)(m:Nat):Bool:=(xOf G.hon).testBit m
def Ii(ks:List KyS)(sg:List (Value×List Vt))(x:VS):Prop:=Ab x.1/\∃(m:Nat) (y:Value×List Vt) (k:KyS) (l:Nat),x.1.signer=(m:Int)/\sg[m]? =some y/\x.1∈y.2/\ks[m]? =some k/\l<1024/\x.2=Dj k.seed l (DU x.1)
structure Kk (n T:Nat)(G:GmS):Prop where
 n1:1<=n/\n<=10
 kn:G.ks.length=n
 sgn:G.sg.length=n
 psn:n<=G.ps.length/\G.ps.length<=2*n
 mem:∀(i b:Nat) (P:PrS),G.ps[i]? =some (b,P)->P.mem<n/\(i<n->P.mem=i)/\(n<=i->G.hb P.mem=false)
 leaf:∀(i b:Nat) (P:PrS),G.ps[i]? =some (b,P)->P.leaf<=1024/\0<=P.acts/\P.acts<=T
 can:∀(i b:Nat) (P:PrS),G.ps[i]? =some (b,P)->B8 (P.L.map Sg.vs)=P.L.map Sg.vs
 held:∀(i b:Nat) (P:PrS),G.ps[i]? =some (b,P)->∀x∈P.L,Ii G.ks G.sg x.vs
 sgd:∀(m:Nat) (y:Value×List Vt),G.sg[m]? =some y->∀v∈y.2,Ab v/\v.signer=(m:Int)
 keep:∀(m b:Nat) (P:PrS) (y:Value×List Vt),G.hb m=true->G.ps[m]? =some (b,P)->G.sg[m]? =some y->∀v∈y.2,v∈P.D
 uniq:∀(m:Nat) (y:Value×List Vt),G.hb m=true->G.sg[m]? =some y->∀u∈y.2,∀v∈y.2,Wn u v->u=v
 cnt:(G.sg.map fun y=>y.2.length).sum<=(G.ps.map fun p=>p.2.leaf).sum+T
theorem PrS.mem_D{P:PrS}{v:Vt}:v∈P.D↔∃x∈P.L,x.vote=v:=by
 rw[Dc,List.map_map,List.mem_map];rfl
theorem H5{α:Type}(f:α->Nat)(c:Nat):∀l:List α,(∀x∈l,f x<=c)->(l.map f).sum<=l.length*c
 |[],_=>by simp
 |a::l,h=>by
  have:=H5 f c l (fun x hx=>h x (List.mem_cons_of_mem _ hx));have h1:=h a BF;simp only[List.map_cons,List.sum_cons,Ah,Nat.add_mul];omega
theorem Kl:∀(l:List Nat) (x:Nat),x∈l->x<=l.sum
 |[],x,h=>by cases h
 |a::l,x,h=>by
  rw[List.sum_cons];rcases List.mem_cons.1 h with rfl|h
  ·omega
  ·have:=Kl l x h;omega
theorem KE{α:Type}(f:α->Nat):∀(l:List α) (i:Nat) (x y:α),l[i]? =some x->((l.set i y).map f).sum+f x=(l.map f).sum+f y
 |[],i,x,y,h=>by simp at h
 |a::l,0,x,y,h=>by simp at h;subst h;simp;omega
 |a::l,i+1,x,y,h=>by
  have:=KE f l i x y (by simpa using h);simp only[List.set_cons_succ,List.map_cons,List.sum_cons];omega
theorem Km:∀(c:List VS) (s:List Vt),CU c->(∀x∈c,x.1∈s)->c.length<=s.length
 |[],_,_,_=>by simp
 |a::c,s,hc,hs=>by
  have hc':c.Pairwise (fun x y=>BU x.1 y.1=true)/\∀y∈c,BU a.1 y.1=true:=by
   have:=List.pairwise_cons.1 hc;exact⟨this.2,this.1⟩
  have ha:=hs a BF;have h1:=Km c (s.erase a.1) hc'.1 (fun x hx=>by
   refine(List.mem_erase_of_ne ?_).2 (hs x (List.mem_cons_of_mem _ hx));intro e;have:=hc'.2 x hx;rw[e,Br]at this;cases this)
  have h2:=List.length_erase_of_mem ha;have h3:=List.length_pos_of_mem ha;simp only[Ah];omega
theorem N6{α β:Type}(f:α->List β):∀l:List α,(l.flatMap f).length=(l.map fun x=>(f x).length).sum
 |[]=>rfl
 |a::l=>by simp[N6 f l]
section
variable {n T:Nat}{G G':GmS}
theorem Kk.len(h:Kk n T G){i b:Nat}{P:PrS}(hi:G.ps[i]? =some (b,P)):P.L.length<=20480+T:=by
 have hc:(P.L.map Sg.vs).length<=(G.sg.flatMap fun y=>y.2).length:=Km _ _ (by rw[<-h.can i b P hi];exact(DE _).asc) (fun x hx=>by
  obtain⟨s,hs,rfl⟩:=List.mem_map.1 hx;obtain⟨_,m,y,k,l,_,h2,h3,_⟩:=h.held i b P hi s hs;exact List.mem_flatMap.2 ⟨y,AM h2,h3⟩)
 rw[AX,N6]at hc;have h1:=h.cnt;have h2:=H5 (fun p:Nat×PrS=>p.2.leaf) 1024 G.ps (fun p hp=>by
  obtain⟨j,hj⟩:=List.getElem?_of_mem hp;exact(h.leaf j p.1 p.2 hj).1)
 have h3:=h.psn.2;have h4:=h.n1.2;omega
theorem Kk.slen(h:Kk n T G){m:Nat}{y:Value×List Vt}(hm:G.sg[m]? =some y):y.2.length<=20480+T:=by
 have h0:y.2.length<=(G.sg.map fun y=>y.2.length).sum:=Kl _ _ (List.mem_map.2 ⟨y,AM hm,rfl⟩);have h1:=h.cnt;have h2:=H5 (fun p:Nat×PrS=>p.2.leaf) 1024 G.ps (fun p hp=>by
  obtain⟨j,hj⟩:=List.getElem?_of_mem hp;exact(h.leaf j p.1 p.2 hj).1)
 have h3:=h.psn.2;have h4:=h.n1.2;omega
theorem Kk.share{T':Nat}(h:Kk n T G)(hT:T<=T')(hks:G'.ks=G.ks)(hh:G'.hon=G.hon)(hsg:G'.sg=G.sg)(hps:G'.ps.length=G.ps.length)(hp:∀(i b:Nat) (P':PrS),G'.ps[i]? =some (b,P')->∃(b0:Nat) (P:PrS),G.ps[i]? =some (b0,P)/\P'.mem=P.mem/\P'.leaf=P.leaf/\0<=P'.acts/\P'.acts<=T'/\B8 (P'.L.map Sg.vs)=P'.L.map Sg.vs/\(∀v∈P.D,v∈P'.D)/\∀x∈P'.L,Ii G.ks G.sg x.vs):Kk n T' G':=by
 have hb:G'.hb=G.hb:=by unfold GmS.hb;rw[hh]
 refine⟨h.n1,by rw[hks];exact h.kn,by rw[hsg];exact h.sgn,by rw[hps];exact h.psn,?_,?_,?_,?_,by rw[hsg];exact h.sgd,?_,by rw[hsg,hb];exact h.uniq,?_⟩
 ·intro i b P' hi;obtain⟨b0,P,h1,h2,_⟩:=hp i b P' hi;rw[h2,hb];exact h.mem i b0 P h1
 ·intro i b P' hi;obtain⟨b0,P,h1,h2,h3,h4,h5,_⟩:=hp i b P' hi;exact⟨by rw[h3];exact(h.leaf i b0 P h1).1,h4,h5⟩
 ·intro i b P' hi;obtain⟨b0,P,h1,h2,h3,h4,h5,h6,_⟩:=hp i b P' hi;exact h6
 ·intro i b P' hi x hx;obtain⟨b0,P,h1,h2,h3,h4,h5,h6,h7,h8⟩:=hp i b P' hi;rw[hks,hsg];exact h8 x hx
 ·intro m b P' y hm hi hy v hv;obtain⟨b0,P,h1,h2,h3,h4,h5,h6,h7,h8⟩:=hp m b P' hi;rw[hsg]at hy;rw[hb]at hm;exact h7 v (h.keep m b0 P y hm h1 hy v hv)
 ·rw[hsg];have e:(G'.ps.map fun p=>p.2.leaf)=G.ps.map fun p=>p.2.leaf:=by
   apply List.ext_getElem?;intro i;rw[AQ,AQ];rcases hi:G'.ps[i]? with _|⟨b,P'⟩
   ·have hl:=List.getElem?_eq_none_iff.1 hi;rw[hps]at hl;rw[List.getElem?_eq_none_iff.2 hl]
   ·obtain⟨b0,P,h1,h2,h3,_⟩:=hp i b P' hi;rw[h1];show some P'.leaf=some P.leaf;rw[h3]
  rw[e];have:=h.cnt;omega
def Qp(P:PrS)(v:Vt):Prop:=∀u∈P.D,¬Wn u v
theorem MD(l:List VS):B8 (B8 l)=B8 l:=GR (by
 rw[LK];intro i x y hx hy;have:=List.pairwise_iff_getElem.1 (DE l).asc i (i+1) (AE.1 hx).1 (AE.1 hy).1 (by omega);rw[(AE.1 hx).2,(AE.1 hy).2]at this;exact this)
theorem Ii.more{ks:List KyS}{sg:List (Value×List Vt)}{m:Nat}{y:Value×List Vt}{u:Value}{v:Vt}{x:VS}(h:Ii ks sg x)(hm:sg[m]? =some y):Ii ks (sg.set m (u,y.2++[v])) x:=by
 obtain⟨h0,m',y',k,l,h1,h2,h3,h4⟩:=h;refine⟨h0,m',if m=m' then(u,y.2++[v])else y',k,l,h1,?_,?_,h4⟩
 ·rw[List.getElem?_set];by_cases e:m=m'
  ·rw[if_pos e,if_pos e,if_pos (AE.1 hm).1]
  ·rw[if_neg e,if_neg e,h2]
 ·by_cases e:m=m'
  ·subst e;rw[hm]at h2;injection h2 with h2
   subst h2;rw[if_pos rfl];exact BW _ h3
  ·rw[if_neg e];exact h3
theorem Kk.sgn'{i:Nat}{v:Vt}(h:Kk n T G)(hs:N5 i v G G')(hf:∀(b:Nat) (P:PrS),G.ps[i]? =some (b,P)->v.signer=(P.mem:Int)/\Qp P v):Kk n T G':=by
 obtain⟨b,P,k,sv0,sl,va,vs,L,h1,h2,h3,h4,h5,rfl⟩:=hs;obtain⟨f1,f2⟩:=hf b P h1;have hil:=(AE.1 h1).1;have hml:=(AE.1 h3).1;have hmm:=h.mem i b P h1
 --what the process holds
 have hHV:∀x∈L,x.vs∈P.L.map Sg.vs∨x.vs=(v,Dj k.seed P.leaf (DU v)):=fun x hx=>by
  have hm:x.vs∈L.map Sg.vs:=List.mem_map_of_mem hx;rw[h5]at hm;rcases AP.1 ((DE _).sub _ hm)with h|h
  ·exact .inl h
  ·exact .inr (AU.1 h)
 have hDP:∀u,u∈(P.signd va L).D↔(u∈P.D∨u=v):=fun u=>by
  show u∈JH (L.map Sg.vs)↔_;rw[Dc,h5,show(List.map (fun x:VS=>x.1) (B8 (P.L.map Sg.vs++[(v,Dj k.seed P.leaf (DU v))])))=JH (P.L.map Sg.vs++[(v,Dj k.seed P.leaf (DU v))])from rfl,Dc,Ae,AP];show _↔(u∈JH _∨_);rw[Dc];simp
 have get:∀{j b':Nat} {P':PrS},(G.ps.set i (b,P.signd va L))[j]? =some (b',P')->(i=j/\b'=b/\P'=P.signd va L)∨(i≠j/\G.ps[j]? =some (b',P')):=fun hj=>by
  rcases B0 hj with⟨e,e'⟩|h
  ·injection e' with e1 e2
   exact .inl ⟨e,e1,e2⟩
  ·exact .inr h
 refine⟨h.n1,h.kn,by show(G.sg.set _ _).length=n;rw[List.length_set];exact h.sgn,by show n<=(G.ps.set _ _).length/\(G.ps.set _ _).length<=_;rw[List.length_set];exact h.psn,?_,?_,?_,?_,?_,?_,?_,?_⟩
 ·intro j b' P' hj;rcases get hj with⟨rfl,rfl,rfl⟩|⟨_,hj⟩
  ·exact hmm
  ·exact h.mem j b' P' hj
 ·intro j b' P' hj;rcases get hj with⟨rfl,rfl,rfl⟩|⟨_,hj⟩
  ·have:=h.leaf i b' P h1;exact⟨by show P.leaf+1<=1024;have:=h4.2;omega,this.2⟩
  ·exact h.leaf j b' P' hj
 ·intro j b' P' hj;rcases get hj with⟨rfl,rfl,rfl⟩|⟨_,hj⟩
  ·show B8 (L.map Sg.vs)=L.map Sg.vs;rw[h5,MD]
  ·exact h.can j b' P' hj
 ·intro j b' P' hj x hx;show Ii G.ks (G.sg.set P.mem (vs,sl++[v])) x.vs;rcases get hj with⟨rfl,rfl,rfl⟩|⟨_,hj⟩
  ·rcases hHV x hx with h'|h'
   ·obtain⟨y,hy,e⟩:=List.mem_map.1 h';rw[<-e];exact(h.held i b' P h1 y hy).more h3
   ·rw[h'];exact⟨h4.1,P.mem,(vs,sl++[v]),k,P.leaf,f1,List.getElem?_set_self hml,Bc _ (AU.2 rfl),h2,h4.2,rfl⟩
  ·exact(h.held j b' P' hj x hx).more h3
 ·intro m y hm u hu;rcases B0 hm with⟨rfl,rfl⟩|⟨_,hm⟩
  ·rcases AP.1 hu with hu|hu
   ·exact h.sgd _ _ h3 u hu
   ·rw[AU.1 hu];exact⟨h4.1,f1⟩
  ·exact h.sgd m y hm u hu
 ·intro m b' P' y hm hj hy u hu;rcases get hj with⟨rfl,rfl,rfl⟩|⟨hne,hj⟩
  ·rw[hDP];have hmi:P.mem=i:=hmm.2.1 (by
    have:=(AE.1 hy).1;rw[show(G.setP i b' (P.signd va L)).setS P.mem vs (sl++[v])={G with ps:=G.ps.set i (b',P.signd va L),sg:=G.sg.set P.mem (vs,sl++[v])}from rfl]at this;simp only[List.length_set]at this;rw[h.sgn]at this;exact this)
   rcases B0 hy with⟨e,rfl⟩|⟨e,hy⟩
   ·rcases AP.1 hu with hu|hu
    ·rw[<-hmi]at hm h1;exact .inl (h.keep P.mem b' P _ hm h1 h3 u hu)
    ·exact .inr (AU.1 hu)
   ·exact absurd hmi e
  ·rcases B0 hy with⟨rfl,rfl⟩|⟨e,hy⟩
   ·--another process of an honest member:there is none
    exfalso;have hin:¬i<n:=fun hi=>hne (by have:=hmm.2.1 hi;omega)
    have:=hmm.2.2 (by omega);rw[show G.hb P.mem=true from hm]at this;cases this
   ·exact h.keep m b' P' y hm hj hy u hu
 ·intro m y hm hy u hu u' hu' hk;rcases B0 hy with⟨rfl,rfl⟩|⟨e,hy⟩
  ·have hin:i<n:=by
    rcases Nat.lt_or_ge i n with hi|hi
    ·exact hi
    ·have:=hmm.2.2 hi;rw[show G.hb P.mem=true from hm]at this;cases this
   have hmi:=hmm.2.1 hin;have hCg:∀u∈sl,u∈P.D:=fun u hu=>h.keep P.mem b P _ hm (by rw[hmi];exact h1) h3 u hu
   rcases AP.1 hu with hu|hu
   ·rcases AP.1 hu' with hu'|hu'
    ·exact h.uniq P.mem _ hm h3 u hu u' hu' hk
    ·rw[AU.1 hu']at hk;exact absurd hk (f2 u (hCg u hu))
   ·rcases AP.1 hu' with hu'|hu'
    ·rw[AU.1 hu]at hk;obtain⟨a1,a2,a3,a4,a5⟩:=hk;exact absurd ⟨a1.symm,a2.symm,a3.symm,a4.symm,a5.symm⟩ (f2 u' (hCg u' hu'))
    ·rw[AU.1 hu,AU.1 hu']
  ·exact h.uniq m y hm hy u hu u' hu' hk
 ·have e1:=KE (fun y:Value×List Vt=>y.2.length) G.sg P.mem _ (vs,sl++[v]) h3;have e2:=KE (fun p:Nat×PrS=>p.2.leaf) G.ps i _ (b,P.signd va L) h1;have:=h.cnt;show((G.sg.set P.mem (vs,sl++[v])).map fun y=>y.2.length).sum<=((G.ps.set i (b,P.signd va L)).map fun p=>p.2.leaf).sum+T;simp only[AF,List.length_singleton]at e1;have e3:(b,P.signd va L).2.leaf=(b,P).2.leaf+1:=rfl;omega
end
end
section
open Go.RowKit
attribute [local go_sem ↓] Go.wp_at_zero Go.wp_at_succ Aj Ao Ap Aq
attribute [local go_sem] Ax BB BC BD AK AR AN
structure Stp where
 kind:Int
 process:Int
 procs:Int
 vote:Vt
abbrev Stp.cells(s:Stp):Array Value:=#[I s.kind,I s.process,I s.procs,I s.vote.kind,I s.vote.slot,I s.vote.round,I s.vote.choice,I s.vote.signer,I s.vote.support,
 B s.vote.parent.b0,B s.vote.parent.b1,B s.vote.parent.b2,B s.vote.parent.b3,B s.vote.parent.b4,B s.vote.parent.b5,B s.vote.parent.b6,B s.vote.parent.b7,
 B s.vote.value.b0,B s.vote.value.b1,B s.vote.value.b2,B s.vote.value.b3,B s.vote.value.b4,B s.vote.value.b5,B s.vote.value.b6,B s.vote.value.b7]
abbrev Stp.val(s:Stp):Value:=.agg s.cells
theorem Stp.row_vote{w:World}{g t:Nat}(s:Stp)(h:Blk w g t s.cells):AJ w g 3 22=some s.vote.cells:=
 Blk.part h 3 s.vote.cells (fun j u hu=>by
  have hj:j<22:=(Aa.1 hu).1;rcases(by omega:j=0∨j=1∨j=2∨j=3∨j=4∨j=5∨j=6∨j=7∨j=8∨j=9∨j=10∨j=11∨j=12∨j=13∨j=14∨j=15∨j=16∨j=17∨j=18∨j=19∨j=20∨j=21)with rfl|rfl|rfl|rfl|rfl|rfl|rfl|rfl|rfl|rfl|rfl|rfl|rfl|rfl|rfl|rfl|rfl|rfl|rfl|rfl|rfl|rfl <;> exact hu)
theorem Dz{Bs g:Nat}{w:World}{G:GmS}(h:A9 Bs w g G):Calls prog 17 #[Az g] w fun e w'=>e= .returned (.int .i64 (G.ps.length:Int))/\w'=w:=by
 obtain⟨A,c,hv⟩:=Av h.prow;obtain⟨n,hn⟩:=ZI G.ps.length;rw[hn]at hv ⊢;have y1:w.cell? ⟨g,11,none⟩=some (.slice A n c):=by rw[<-hv];exact h.blk.cell 11
 clear h hv hn;go_enter func17,ntmps17;go_wp2;go_ret;exact⟨rfl,rfl⟩
theorem A9.pcells{Bs g i b:Nat}{w:World}{G:GmS}{P:PrS}(h:A9 Bs w g G)(hi:G.ps[i]? =some (b,P)):∃pb pc,G.pv= .slice (some ⟨pb,0,none⟩) G.ps.length pc/\w.cell? ⟨g,11,none⟩=some (.slice (some ⟨pb,0,none⟩) G.ps.length pc)/\w.cell? ⟨pb,i,none⟩=some (Az b)/\i<G.ps.length:=by
 obtain⟨pb,pc,hpv,hpc,_,hpn⟩:=Cg (i:=i) (u:=Az b) h.prow (by rw[AQ,hi];rfl);exact⟨pb,pc,hpv,by rw[<-hpv];exact h.blk.cell 11,hpc,hpn⟩
theorem Fo{Bs g i b:Nat}{w:World}{G:GmS}{P:PrS}(h:A9 Bs w g G)(hi:G.ps[i]? =some (b,P)):Calls prog 20 #[Az g,.int .i64 (i:Int)] w fun e w'=>e= .returned (.int .i64 (P.mem:Int))/\w'=w:=by
 have HP:=AA (Dz h);obtain⟨pb,pc,_,y1,y2,hpn⟩:=h.pcells hi;have y3:w.cell? ⟨b,1,none⟩=some (.int .i64 (P.mem:Int)):=(h.prs _ _ hi).1.blk.cell 1;obtain⟨n,hn⟩:=ZH G.ps.length;rw[<-hn]at y1 hpn HP;have d1:decide ((i:Int)<0)=false:=by simp
 have d2:decide ((n:Int)<=(i:Int))=false:=by simp;omega
 clear h hi hn;go_enter func20,ntmps20;go_wp2_with (go_at_call 17;refine HP.out.mono ?_;rintro en w2 ⟨rfl,hw2⟩;replace hw2:=hw2.symm;subst hw2)
 go_ret;exact⟨rfl,rfl⟩
theorem Rs{Bs g:Nat}{w:World}{G:GmS}(h:A9 Bs w g G)(p:Int)(hp:p<0∨(G.ps.length:Int)<=p):Calls prog 20 #[Az g,.int .i64 p] w fun e w'=>e= .returned (.int .i64 (-1))/\w'=w:=by
 have HP:=AA (Dz h);obtain⟨n,hn⟩:=ZH G.ps.length;rw[<-hn]at hp HP;clear h hn;by_cases h0:p<0
 ·have d1:decide (p<0)=true:=by simpa using h0
  go_enter func20,ntmps20;go_wp2;go_ret;exact⟨rfl,rfl⟩
 ·have d1:decide (p<0)=false:=by simpa using h0
  have d2:decide ((n:Int)<=p)=true:=by simp;omega
  go_enter func20,ntmps20;go_wp2_with (go_at_call 17;refine HP.out.mono ?_;rintro en w2 ⟨rfl,hw2⟩;replace hw2:=hw2.symm;subst hw2)
  go_ret;exact⟨rfl,rfl⟩
def Tj(P:PrS)(w:World)(e:Ending)(w':World):Prop:=
 ∃v:Value,e= .returned (.tuple #[v,.bool P.dd])/\ZN w w'/\(P.dd=true->w'.ownsRow w.heap.size 88 9 v P.dec.length (P.dec.flatMap chc))/\(P.dd=false->v= .slice none 0 0)
theorem Ij{Bs g i b:Nat}{w:World}{G:GmS}{P:PrS}(h:A9 Bs w g G)(hi:G.ps[i]? =some (b,P))(hsm:P.dec.length<=1000000):Calls prog 18 #[Az g,.int .i64 (i:Int)] w (Tj P w):=by
 have HM:=AA (Fo h hi);have HP:=(h.prs _ _ hi).1;obtain⟨pb,pc,_,y1,y2,hpn⟩:=h.pcells hi;obtain⟨A,c,hv,hr⟩:=Bj HP.dec;have y3:w.cell? ⟨b,13,none⟩=some (.bool P.dd):=HP.blk.cell 13;have y4:w.cell? ⟨b,12,none⟩=some (.slice A P.dec.length c):=by rw[<-hv];exact HP.blk.cell 12
 obtain⟨m,hm⟩:=ZI P.dec.length;obtain⟨n,hn⟩:=ZH G.ps.length;obtain⟨d,hd⟩:=ZH P.dd;rw[<-hn]at y1 hpn;rw[hm]at y4 hsm;rw[<-hd]at y3;have HR:=AA hr;have HMl:=AA hm;have HD:=AA hd;have d1:decide ((P.mem:Int)<0)=false:=by simp
 clear h hi hn hr hv HP hm hd;go_enter func18,ntmps18;go_upto_region 1 with fail
 cases d with
 |false=>
  go_wp2_with (go_at_call 20;refine HM.out.mono ?_;rintro en w2 ⟨rfl,hw2⟩;replace hw2:=hw2.symm;subst hw2)
  go_ret2;exact⟨.slice none 0 0,by rw[<-HD.out];rfl,AC _ _,fun h=>(by rw[<-HD.out]at h;cases h),fun _=>rfl⟩
 |true=>
  go_wp2_with (first
   |(go_at_call 20;refine HM.out.mono ?_;rintro en w2 ⟨rfl,hw2⟩;replace hw2:=hw2.symm;subst hw2)
   |(at_builtin;refine Ar rfl (.const (.slice none 0 0)) (.tmp 32) _ rfl w.heap.size 88 Ch.zero.val 9 16 underlying36 Qo rfl (by decide) (.slice none 0 0) 0 [] rfl ⟨by simp,.inl ⟨rfl,rfl⟩⟩ w.heap.size A m c (P.dec.flatMap chc) rfl (by rw[AY chc 9 P.dec (Ig P.dec),HMl.out]) HR.out (fun u hu=>by obtain⟨s,_,hs⟩:=List.mem_flatMap.1 hu;exact Te s hs) (by omega) (by unfold maxLen;omega) (AB _) ?_;intro v3 w3 xD hg3 yb))
  go_ret2;rw[Nat.zero_add,List.nil_append]at xD;change w.grownBy w3 none at hg3;refine⟨v3,by rw[<-HD.out];rfl,(AC _ w).grown hg3 (AB _) (fun k hk=>by cases hk),fun _=>by rw[HMl.out];exact xD,fun h=>(by rw[<-HD.out]at h;cases h)⟩
end
end Go.Proofs.YtadllffeoibelaaGreat
