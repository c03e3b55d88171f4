/-
  Parts of the proof. No condition.
-/
import Derived.Test.YtadllffeoibelaaGreatS8
open Go.Proofs.Tryz
namespace Go.Proofs.YtadllffeoibelaaGreat
set_option maxRecDepth 100000
set_option maxHeartbeats 32000000
set_option linter.all false
section
open Go.RowKit
section
variable {α:Type}{c:Bc α}{t:TypeId}{w0:World}{g n f F:Nat}{sb lb:Array Value}{lt:α->α->Bool}{l0:List α}
structure Fc (c:Bc α)(t:TypeId)(g:Nat)(l0:List α)(w0:World)(sp:Nat)(V:World):Prop where
 row:Az c t g l0 w0 V
 new:w0.heap.size<=sp
 ne:sp≠g
 cell:∃z:Int,Blk V sp 3 #[.int .i64 z]
theorem Fc.below{sp:Nat}{V W:World}(h:Fc c t g l0 w0 sp V)(hb:Wx V W):Fc c t g l0 w0 sp W:=by
 obtain⟨z,hz⟩:=h.cell;exact⟨h.row.below hb,h.new,h.ne,z,hz.below hb hz.lt⟩
theorem Fc.alloc{sp:Nat}{V:World}(h:Fc c t g l0 w0 sp V)(o:Obj):Fc c t g l0 w0 sp (V.alloc o):=by
 obtain⟨z,hz⟩:=h.cell;exact⟨h.row.alloc o,h.new,h.ne,z,hz.alloc o⟩
theorem Fc.store{sp:Nat}{V:World}(h:Fc c t g l0 w0 sp V)(u:Int):Fc c t g l0 w0 sp (V.setCell ⟨sp,0,none⟩ (.int .i64 u)):=by
 obtain⟨z,hz⟩:=h.cell;obtain⟨l,h1,h2⟩:=h.row;have hn:=h.new;exact⟨⟨l,⟨h1.blk.far (fun e=>h.ne e.symm) _,⟨h1.kept.os,h1.kept.tape,h1.kept.output,by simpa[World.setCell]using h1.kept.size,fun i hi hne=>(Below.heap_setCell V ⟨sp,0,none⟩ _ i (by show i≠sp;omega)).trans (h1.kept.block i hi hne)⟩⟩,h2⟩,h.new,h.ne,u,hz.put 0 _⟩
theorem Br{V W:World}{r:Option Nat}(hb:Wx V W):V.grownBy W r:=⟨hb.os,hb.tape,hb.output,hb.size,fun i hi _=>hb.block i hi⟩
theorem Srt.less0{V:World}(H:Srt c t w0 g n f F sb lb lt l0)(hV:Az c t g l0 w0 V)(i j:Nat)(hi:i<n)(hj:j<n):Calls prog F (#[.int .i64 (i:Int),.int .i64 (j:Int)]++lb) V fun e w'=>∃k,e= .returned (.bool k)/\Wx V w':=by
 obtain⟨l,h1,h2⟩:=hV;have hl:l.length=n:=h2.length_eq.trans H.len;obtain⟨x,hx⟩:∃x,l[i]? =some x:=⟨_,AE (by omega)⟩;obtain⟨y,hy⟩:∃y,l[j]? =some y:=⟨_,AE (by omega)⟩;exact(H.le V l i j x y h1 h2 hx hy).mono fun e w' h=>⟨_,h.1,h.2⟩
def UK(c:Bc α)(t:TypeId)(g:Nat)(l0:List α)(w0:World)(sp lo hi:Nat)(w:World)(e:Ending)(w':World):Prop:=
 ∃x y:Nat,e= .returned (.tuple #[.int .i64 (x:Int),.int .i64 (y:Int)])/\(lo<=x/\x<hi)/\(lo<=y/\y<hi)/\Fc c t g l0 w0 sp w'/\w.grownBy w' (some sp)
def L9(c:Bc α)(t:TypeId)(g:Nat)(l0:List α)(w0:World)(sp lo hi:Nat)(w:World)(e:Ending)(w':World):Prop:=
 ∃x:Nat,e= .returned (.int .i64 (x:Int))/\(lo<=x/\x<hi)/\Fc c t g l0 w0 sp w'/\w.grownBy w' (some sp)
theorem Gw(H:Srt c t w0 g n f F sb lb lt l0)(sp lo hi a b:Nat)(w:World)(hw:Fc c t g l0 w0 sp w)(ha:lo<=a/\a<hi)(hb:lo<=b/\b<hi)(hh:hi<=n):Calls prog 279 #[.agg #[.func (.func F) #[] lb,.func (.func f) #[] sb],.int .i64 (a:Int),.int .i64 (b:Int),(.pointer (some ⟨sp,0,none⟩))] w (UK c t g l0 w0 sp lo hi w):=by
 have HH:=AA H;have eg:=H.eg;have hn6:=H.small;have HW:=AA hw;obtain⟨z,hz⟩:=hw.cell;obtain⟨B,hB⟩:=Wr (w.alloc (.cells #[.func (.func F) #[] lb,.func (.func f) #[] sb] 190));have hBx:Blk B w.heap.size 190 #[.func (.func F) #[] lb,.func (.func f) #[] sb]:=by rw[hB];exact Blk.new _ _ _
 have hSB:Fc c t g l0 w0 sp B:=by rw[hB];exact hw.alloc _
 have hgB:w.grownBy B (some sp):=by rw[hB];exact World.grownBy_alloc _ _ _
 have c0:B.cell? ⟨w.heap.size,0,none⟩=some (.func (.func F) #[] lb):=hBx.cell 0;have HB:=AA hB;have HS:=AA hSB;have HG:=AA hgB;clear hw hz hB hBx hSB hgB H;go_enter func279,ntmps279;go_upto_region 1 with fail
 simp only[<-HB.out];go_wp2_with fail
 refine(HH.out.less0 HS.out.row b a (by omega) (by omega)).mono ?_;rintro en w2 ⟨k,rfl,hb2⟩;have hS2:=HS.out.below hb2;obtain⟨z2,hz2⟩:=hS2.cell;have HS2:=AA hS2;have HG2:Hid (w.grownBy w2 (some sp)):=HG.out.trans (Br hb2);have y0:w2.cell? ⟨sp,0,none⟩=some (.int .i64 z2):=hz2.cell 0;have y1:w2.frozen? ⟨sp,0,none⟩=false:=hz2.frozen 0;clear hb2 hS2 hz2 c0;cases k with
 |false=>
  go_wp2;go_ret2;exact⟨a,b,rfl,ha,hb,HS2.out,HG2.out⟩
 |true=>
  go_wp2;go_ret2;exact⟨b,a,rfl,hb,ha,HS2.out.store _,Bl HG2.out rfl _⟩
theorem Gx(H:Srt c t w0 g n f F sb lb lt l0)(sp lo hi a b d:Nat)(w:World)(hw:Fc c t g l0 w0 sp w)(ha:lo<=a/\a<hi)(hb:lo<=b/\b<hi)(hd:lo<=d/\d<hi)(hh:hi<=n):Calls prog 271 #[.agg #[.func (.func F) #[] lb,.func (.func f) #[] sb],.int .i64 (a:Int),.int .i64 (b:Int),.int .i64 (d:Int),(.pointer (some ⟨sp,0,none⟩))] w (L9 c t g l0 w0 sp lo hi w):=by
 have HH:=AA H;have eg:=H.eg;have hn6:=H.small;obtain⟨B,hB⟩:=Wr (w.alloc (.cells #[.func (.func F) #[] lb,.func (.func f) #[] sb] 190));have hBx:Blk B w.heap.size 190 #[.func (.func F) #[] lb,.func (.func f) #[] sb]:=by rw[hB];exact Blk.new _ _ _
 have hSB:Fc c t g l0 w0 sp B:=by rw[hB];exact hw.alloc _
 have hgB:w.grownBy B (some sp):=by rw[hB];exact World.grownBy_alloc _ _ _
 have hspw:sp<w.heap.size:=by obtain⟨z,hz⟩:=hw.cell;exact hz.lt
 have HC:Hid (∀V,B.grownBy V (some sp)->V.cell? ⟨w.heap.size,0,none⟩=some (.func (.func F) #[] lb)/\V.cell? ⟨w.heap.size,1,none⟩=some (.func (.func f) #[] sb)):=fun V h=>⟨(hBx.kept h (by intro e;injection e with e;omega)).cell 0,(hBx.kept h (by intro e;injection e with e;omega)).cell 1⟩
 obtain⟨c0,c1⟩:=HC.out B (Al B sp);have HB:=AA hB;have HS:=AA hSB;have HG:=AA hgB;have HR:Hid (B.grownBy B (some sp)):=Al B sp;clear hw hB hBx hSB hgB H;go_enter func271,ntmps271;go_upto_region 1 with fail
 simp only[<-HB.out];go_upto_region 2 with(go_at_call 279;refine(Gw HH.out sp lo hi a b _ HS.out ha hb hh).mono ?_;rintro en w2 ⟨x,y,rfl,hx,hy,hs,hg⟩;have HS2:=AA hs;have HR2:=AA (HR.out.trans hg);obtain⟨c0,c1⟩:=HC.out _ (HR.out.trans hg);clear hs hg)
 go_upto_region 3 with(go_at_call 279;refine(Gw HH.out sp lo hi y d _ HS2.out hy hd hh).mono ?_;rintro en w3 ⟨p,q,rfl,hp,hq,hs,hg⟩;have HS3:=AA hs;have HR3:=AA (HR2.out.trans hg);obtain⟨c0,c1⟩:=HC.out _ (HR2.out.trans hg);clear hs hg)
 go_wp2_with (go_at_call 279;refine(Gw HH.out sp lo hi x p _ HS3.out hx hp hh).mono ?_;rintro en w4 ⟨r,s,rfl,hr,hsb,hs,hg⟩;have HS4:=AA hs;have HR4:=AA (HR3.out.trans hg);obtain⟨c0,c1⟩:=HC.out _ (HR3.out.trans hg);clear hs hg)
 go_ret;exact⟨s,rfl,hsb,HS4.out,HG.out.trans HR4.out⟩
theorem Gy(H:Srt c t w0 g n f F sb lb lt l0)(sp lo hi a:Nat)(w:World)(hw:Fc c t g l0 w0 sp w)(ha:lo+1<=a/\a+1<hi)(hh:hi<=n):Calls prog 270 #[.agg #[.func (.func F) #[] lb,.func (.func f) #[] sb],.int .i64 (a:Int),(.pointer (some ⟨sp,0,none⟩))] w (L9 c t g l0 w0 sp lo hi w):=by
 have HM:Hid (∀V,Fc c t g l0 w0 sp V->Calls prog 271 #[.agg #[.func (.func F) #[] lb,.func (.func f) #[] sb],.int .i64 ((a:Int)-1),.int .i64 (a:Int),.int .i64 ((a:Int)+1),(.pointer (some ⟨sp,0,none⟩))] V (L9 c t g l0 w0 sp lo hi V)):=fun V hV=>by
  have h:=Gx H sp lo hi (a-1) a (a+1) V hV (by omega) (by omega) (by omega) hh;rwa[show((a-1:Nat):Int)=(a:Int)-1 from by omega,show((a+1:Nat):Int)=(a:Int)+1 from by omega]at h
 have HH:=AA H;have eg:=H.eg;have hn6:=H.small;obtain⟨B,hB⟩:=Wr (w.alloc (.cells #[.func (.func F) #[] lb,.func (.func f) #[] sb] 190));have hBx:Blk B w.heap.size 190 #[.func (.func F) #[] lb,.func (.func f) #[] sb]:=by rw[hB];exact Blk.new _ _ _
 have hSB:Fc c t g l0 w0 sp B:=by rw[hB];exact hw.alloc _
 have hgB:w.grownBy B (some sp):=by rw[hB];exact World.grownBy_alloc _ _ _
 have hspw:sp<w.heap.size:=by obtain⟨z,hz⟩:=hw.cell;exact hz.lt
 have HC:Hid (∀V,B.grownBy V (some sp)->V.cell? ⟨w.heap.size,0,none⟩=some (.func (.func F) #[] lb)/\V.cell? ⟨w.heap.size,1,none⟩=some (.func (.func f) #[] sb)):=fun V h=>⟨(hBx.kept h (by intro e;injection e with e;omega)).cell 0,(hBx.kept h (by intro e;injection e with e;omega)).cell 1⟩
 obtain⟨c0,c1⟩:=HC.out B (Al B sp);have HB:=AA hB;have HS:=AA hSB;have HG:=AA hgB;have HR:Hid (B.grownBy B (some sp)):=Al B sp;clear hw hB hBx hSB hgB H;go_enter func270,ntmps270;go_upto_region 1 with fail
 simp only[<-HB.out];go_wp2_with (go_at_call 271;refine(HM.out _ HS.out).mono ?_;rintro en w2 ⟨x,rfl,hx,hs,hg⟩;have HS2:=AA hs;have HR2:=AA hg;clear hs hg)
 go_ret;exact⟨x,rfl,hx,HS2.out,HG.out.trans HR2.out⟩
theorem LO{A B V:World}{sp r:Nat}(hb:Wx A B)(hg:B.grownBy V (some sp))(hs:A.heap.size<=sp):A.grownBy V (some r):=
 ⟨hg.os.trans hb.os,hg.tape.trans hb.tape,hg.output.trans hb.output,AG hb.size hg.size,fun i hi _=>(hg.block i (Nat.lt_of_lt_of_le hi hb.size) (by intro e;injection e with e;omega)).trans (hb.block i hi)⟩
def Ve(c:Bc α)(t:TypeId)(g:Nat)(l0:List α)(a b:Nat)(w:World)(e:Ending)(w':World):Prop:=
 ∃(x:Nat) (h:Int),e= .returned (.tuple #[.int .i64 (x:Int),.int .i64 h])/\(a<=x/\x<b)/\Az c t g l0 w w'
theorem LP(H:Srt c t w0 g n f F sb lb lt l0)(a b:Nat)(w:World)(hw:Az c t g l0 w0 w)(hgw:g<w.heap.size)(hab:a+12<b)(hb:b<=n):Calls prog 231 #[.agg #[.func (.func F) #[] lb,.func (.func f) #[] sb],.int .i64 (a:Int),.int .i64 (b:Int)] w (Ve c t g l0 a b w):=by
 obtain⟨L,hbL⟩:∃L,b=a+L:=⟨b-a,by omega⟩;have hL:((b:Int)-(a:Int))=(L:Int):=by omega
 obtain⟨q,hq⟩:=Wr (L/4);have hq1:4*q<=L/\L<4*q+4:=by omega
 have hq2:(L:Int)/4=(q:Int):=by omega
 have hL12:12<L:=by omega
 have dL8:decide (8<=(L:Int))=true:=by simp;omega
 have hbb:a+L<=n:=by omega
 have HbL:=AA hbL;clear hq hbL;have HH:=AA H;have eg:=H.eg;have hn6:=H.small;obtain⟨B,hB⟩:=Wr (w.alloc (.cells #[.func (.func F) #[] lb,.func (.func f) #[] sb] 190));obtain⟨sp,hsp⟩:=Wr B.heap.size;obtain⟨B2,hB2⟩:=Wr (B.alloc (.cells #[.int .i64 0] 3));have hsw:sp=w.heap.size+1:=by rw[hsp,hB];simp
 have hHY:Blk B w.heap.size 190 #[.func (.func F) #[] lb,.func (.func f) #[] sb]:=by rw[hB];exact Blk.new _ _ _
 have hBx:Blk B2 w.heap.size 190 #[.func (.func F) #[] lb,.func (.func f) #[] sb]:=by rw[hB2];exact hHY.alloc _
 have hbw:Wx w B2:=by rw[hB2,hB];exact((AC _ _).alloc (AB _) _).alloc (by simp) _
 have hS2:Fc c t g l0 w0 sp B2:=⟨by rw[hB2,hB];exact(hw.alloc _).alloc _,by have:=hw.size;omega,by omega,0,by rw[hB2,hsp];exact Blk.new _ _ _⟩;have HC:Hid (∀V,B2.grownBy V (some sp)->V.cell? ⟨w.heap.size,0,none⟩=some (.func (.func F) #[] lb)/\V.cell? ⟨w.heap.size,1,none⟩=some (.func (.func f) #[] sb)):=fun V h=>⟨(hBx.kept h (by intro e;injection e with e;omega)).cell 0,(hBx.kept h (by intro e;injection e with e;omega)).cell 1⟩
 have hHZ:Hid (w.heap.size<=sp):=by unfold Hid;omega
 have HB:=AA hB;have HB2:=AA hB2;have HSp:=AA hsp;have HS:=AA hS2;have HBw:=AA hbw;have HR:Hid (B2.grownBy B2 (some sp)):=Al B2 sp;obtain⟨c0,c1⟩:=HC.out B2 (Al B2 sp);clear hw hB hBx hHY hB2 hsp hsw hS2 hbw H;go_enter func231,ntmps231;go_upto_region 1 with fail
 simp only[<-HB.out];go_upto_region 3 with fail
 simp only[<-HB2.out,<-HSp.out];by_cases h50:50<=L
 ·have d50:decide (50<=(L:Int))=true:=by simp;omega
  go_upto_region 9 with(go_at_call 270;have hl:=Gy HH.out sp a (a+L) (a+q) _ HS.out (by omega) hbb;push_cast at hl;refine hl.mono ?_;clear hl;rintro en w5 ⟨x1,rfl,hx1,hs,hg⟩;have HS5:=AA hs;have HR5:=AA (HR.out.trans hg);obtain⟨c0,c1⟩:=HC.out _ (HR.out.trans hg);clear hs hg)
  go_upto_region 10 with(go_at_call 270;have hl:=Gy HH.out sp a (a+L) (a+q*2) _ HS5.out (by omega) hbb;push_cast at hl;refine hl.mono ?_;clear hl;rintro en w6 ⟨x2,rfl,hx2,hs,hg⟩;have HS6:=AA hs;have HR6:=AA (HR5.out.trans hg);obtain⟨c0,c1⟩:=HC.out _ (HR5.out.trans hg);clear hs hg)
  go_upto_region 11 with(go_at_call 270;have hl:=Gy HH.out sp a (a+L) (a+q*3) _ HS6.out (by omega) hbb;push_cast at hl;refine hl.mono ?_;clear hl;rintro en w7 ⟨x3,rfl,hx3,hs,hg⟩;have HS7:=AA hs;have HR7:=AA (HR6.out.trans hg);obtain⟨c0,c1⟩:=HC.out _ (HR6.out.trans hg);clear hs hg)
  go_upto_region 12 with(go_at_call 271;have hl:=Gx HH.out sp a (a+L) x1 x2 x3 _ HS7.out hx1 hx2 hx3 hbb;push_cast at hl;refine hl.mono ?_;clear hl;rintro en w9 ⟨x,rfl,hx,hs,hg⟩;have HS9:=AA hs;have HR9:=AA (HR7.out.trans hg);obtain⟨c0,c1⟩:=HC.out _ (HR7.out.trans hg);clear hs hg)
  ·rw[<-HbL.out]at hx;obtain⟨z,hz⟩:=HS9.out.cell;have y0:=hz.cell 0;clear hz;simp at y0;have HPo:Hid (Az c t g l0 w w9):=by
    obtain⟨l,h1,h2⟩:=HS9.out.row;exact⟨l,⟨h1.blk,LO HBw.out HR9.out hHZ.out⟩,h2⟩
   by_cases z0:z=0
   ·have e0:(z==0)=true:=by rw[z0];rfl
    go_wp2;go_ret2;exact⟨x,1,rfl,hx,HPo.out⟩
   ·have e0:(z==0)=false:=by simp[z0]
    by_cases z1:z=12
    ·have e1:(z==12)=true:=by rw[z1];rfl
     go_wp2;go_ret2;exact⟨x,2,rfl,hx,HPo.out⟩
    ·have e1:(z==12)=false:=by simp[z1]
     go_wp2;go_ret2;exact⟨x,0,rfl,hx,HPo.out⟩
 ·have d50:decide (50<=(L:Int))=false:=by simp;omega
  go_upto_region 12 with(go_at_call 271;have hl:=Gx HH.out sp a (a+L) (a+q) (a+q*2) (a+q*3) _ HS.out (by omega) (by omega) (by omega) hbb;push_cast at hl;refine hl.mono ?_;clear hl;rintro en w9 ⟨x,rfl,hx,hs,hg⟩;have HS9:=AA hs;have HR9:=AA (HR.out.trans hg);obtain⟨c0,c1⟩:=HC.out _ (HR.out.trans hg);clear hs hg)
  ·rw[<-HbL.out]at hx;obtain⟨z,hz⟩:=HS9.out.cell;have y0:=hz.cell 0;clear hz;simp at y0;have HPo:Hid (Az c t g l0 w w9):=by
    obtain⟨l,h1,h2⟩:=HS9.out.row;exact⟨l,⟨h1.blk,LO HBw.out HR9.out hHZ.out⟩,h2⟩
   by_cases z0:z=0
   ·have e0:(z==0)=true:=by rw[z0];rfl
    go_wp2;go_ret2;exact⟨x,1,rfl,hx,HPo.out⟩
   ·have e0:(z==0)=false:=by simp[z0]
    by_cases z1:z=12
    ·have e1:(z==12)=true:=by rw[z1];rfl
     go_wp2;go_ret2;exact⟨x,2,rfl,hx,HPo.out⟩
    ·have e1:(z==12)=false:=by simp[z1]
     go_wp2;go_ret2;exact⟨x,0,rfl,hx,HPo.out⟩
end
section
variable {α:Type}{c:Bc α}{t:TypeId}{w0:World}{g n f F:Nat}{sb lb:Array Value}{lt:α->α->Bool}{l0:List α}
theorem I4(H:Srt c t w0 g n f F sb lb lt l0)(a b:Nat)(w:World)(hw:Az c t g l0 w0 w)(hab:a+12<b)(hb:b<=n):Calls prog 233 #[.agg #[.func (.func F) #[] lb,.func (.func f) #[] sb],.int .i64 (a:Int),.int .i64 (b:Int)] w fun e w'=>∃k,e= .returned (.bool k)/\Az c t g l0 w w':=by
 have HH:=AA H;have hgw:g<w.heap.size:=hw.glt;obtain⟨B,hB⟩:=Wr (w.alloc (.cells #[.func (.func F) #[] lb,.func (.func f) #[] sb] 190));have h0B:Az c t g l0 w0 B:=by rw[hB];exact hw.alloc _
 have hBB:Az c t g l0 B B:=h0B.self;have hBx:Blk B w.heap.size 190 #[.func (.func F) #[] lb,.func (.func f) #[] sb]:=by rw[hB];exact Blk.new _ _ _
 have xt:Hid (∀V,Az c t g l0 B V->Az c t g l0 w V):=fun V h=>by rw[hB]at h;exact h.off
 have HB0:=AA h0B;have HC:Hid (∀V,Az c t g l0 B V->V.cell? ⟨w.heap.size,0,none⟩=some (.func (.func F) #[] lb)/\V.cell? ⟨w.heap.size,1,none⟩=some (.func (.func f) #[] sb)):=fun V h=>⟨(h.box hBx (by omega)).cell 0,(h.box hBx (by omega)).cell 1⟩
 have eg:=H.eg;have hn6:=H.small;have HW:=AA hB;have HBB:=AA hBB;clear hw hB h0B hBB hBx H;go_enter func233,ntmps233;go_upto_region 1 with fail
 simp only[<-HW.out];go_upto_region 3 with fail
 go_loopw [7,8] (fun iv jv wr=>∃i j:Nat,iv= .int .i64 (i:Int)/\jv= .int .i64 (j:Int)/\a+1<=i/\i<=b/\j<=5/\Hid (Az c t g l0 B wr)) (fun _ jv _=>5-(intOf jv).toNat)
 case atStart=>exact⟨a+1,0,by go_num,rfl,by omega,by omega,by omega,HBB⟩
 case round=>
  obtain⟨i,j,rfl,rfl,hi,hib,hj,HP⟩:=hrel;by_cases hj5:j<5
  ·have dj:decide ((j:Int)<5)=true:=by simp;omega
   go_wp2
   go_loopw [7] (fun iv wr=>∃i:Nat,iv= .int .i64 (i:Int)/\a+1<=i/\i<=b/\Hid (Az c t g l0 B wr)) (fun iv _=>b-(intOf iv).toNat)
   case atStart=>exact⟨i,rfl,hi,hib,HP⟩
   case round=>
    obtain⟨i,rfl,hi,hib,HP⟩:=hrel;obtain⟨c0,c1⟩:=HC.out _ HP.out;by_cases h1:i<b
    ·have d1:=Wu (show i<b by omega)
     go_wp2_with fail
     have hl:=HH.out.less HB0.out HP.out (i) (i-1) (by omega) (by omega);try push_cast at hl
     rw[show((i-1:Nat):Int)=(i:Int)-1 from by omega]at hl;refine hl.mono ?_;clear hl;rintro en w3 ⟨k3,rfl,hp⟩;have HP3:=AA hp;obtain⟨c0,c1⟩:=HC.out _ hp;clear hp;cases k3 with
     |false=>
      go_wp2;go_roundw
      case rel=>exact⟨i+1,by go_num,by omega,by omega,HP3⟩
      case measure=>simp[intOf];omega
     |true=>
      have e1:((i:Int)==(b:Int))=false:=by simp;omega
      by_cases h50:b<a+50
      ·have d50:decide ((b:Int)-(a:Int)<50)=true:=by simp;omega
       go_wp2;go_ret;exact⟨false,rfl,xt.out _ HP3.out⟩
      ·have d50:decide ((b:Int)-(a:Int)<50)=false:=by simp;omega
       obtain⟨w4,xK,hp⟩:=HH.out.swap HB0.out HP3.out (i) (i-1) (by omega) (by omega) (by omega);try push_cast at xK
       rw[show((i-1:Nat):Int)=(i:Int)-1 from by omega]at xK;have HP4:=AA hp;obtain⟨c0',c1'⟩:=HC.out _ hp;clear hp;go_upto_region 12 with fail
       by_cases h12:a+2<=i
       ·have d12:decide (2<=(i:Int)-(a:Int))=true:=by simp;omega
        go_wp2
        go_loopw [9] (fun kv wr=>∃k:Nat,kv= .int .i64 (k:Int)/\k<=i/\Hid (Az c t g l0 B wr)) (fun kv _=>(intOf kv).toNat)
        case atStart=>exact⟨i-1,by go_num,by omega,HP4⟩
        case round=>
         obtain⟨k,rfl,hki,HP⟩:=hrel;obtain⟨c0,c1⟩:=HC.out _ HP.out;by_cases hk:1<=k
         ·have dk:decide (1<=(k:Int))=true:=by simp;omega
          go_wp2_with fail
          have hl:=HH.out.less HB0.out HP.out (k) (k-1) (by omega) (by omega);try push_cast at hl
          rw[show((k-1:Nat):Int)=(k:Int)-1 from by omega]at hl;refine hl.mono ?_;clear hl;rintro en w5 ⟨k5,rfl,hp⟩;have HP5:=AA hp;obtain⟨c0,c1⟩:=HC.out _ hp;clear hp;cases k5 with
          |true=>
           obtain⟨w6,xK,hp⟩:=HH.out.swap HB0.out HP5.out (k) (k-1) (by omega) (by omega) (by omega);try push_cast at xK
           rw[show((k-1:Nat):Int)=(k:Int)-1 from by omega]at xK;have HP6:=AA hp;obtain⟨c0',c1'⟩:=HC.out _ hp;clear hp;go_wp2;go_roundw
           case rel=>exact⟨k-1,by go_num,by omega,HP6⟩
           case measure=>simp[intOf];omega
          |false=>
           by_cases h18:i+2<=b
           ·have d18:decide (2<=(b:Int)-(i:Int))=true:=by simp;omega
            go_wp2
            go_loopw [10] (fun kv wr=>∃k:Nat,kv= .int .i64 (k:Int)/\1<=k/\k<=b/\Hid (Az c t g l0 B wr)) (fun kv _=>b-(intOf kv).toNat)
            case atStart=>exact⟨i+1,by go_num,by omega,by omega,HP5⟩
            case round=>
             obtain⟨k,rfl,hk1,hkb,HP⟩:=hrel;obtain⟨c0,c1⟩:=HC.out _ HP.out;by_cases hk:k<b
             ·have dk:=Wu (show k<b by omega)
              go_wp2_with fail
              have hl:=HH.out.less HB0.out HP.out (k) (k-1) (by omega) (by omega);try push_cast at hl
              rw[show((k-1:Nat):Int)=(k:Int)-1 from by omega]at hl;refine hl.mono ?_;clear hl;rintro en w7 ⟨k7,rfl,hp⟩;have HP7:=AA hp;obtain⟨c0,c1⟩:=HC.out _ hp;clear hp;cases k7 with
              |true=>
               obtain⟨w8,xK,hp⟩:=HH.out.swap HB0.out HP7.out (k) (k-1) (by omega) (by omega) (by omega);try push_cast at xK
               rw[show((k-1:Nat):Int)=(k:Int)-1 from by omega]at xK;have HP8:=AA hp;obtain⟨c0',c1'⟩:=HC.out _ hp;clear hp;go_wp2;go_roundw
               case rel=>exact⟨k+1,by go_num,by omega,by omega,HP8⟩
               case measure=>simp[intOf];omega
              |false=>
               go_wp2;go_roundw
               case rel=>exact⟨i,j+1,rfl,by go_num,by omega,by omega,by omega,HP7⟩
               case measure=>simp[intOf];omega
             ·have dk:=Wv (show b<=k by omega)
              go_wp2;go_roundw
              case rel=>exact⟨i,j+1,rfl,by go_num,by omega,by omega,by omega,HP⟩
              case measure=>simp[intOf];omega
           ·have d18:decide (2<=(b:Int)-(i:Int))=false:=by simp;omega
            go_wp2;go_roundw
            case rel=>exact⟨i,j+1,rfl,by go_num,by omega,by omega,by omega,HP5⟩
            case measure=>simp[intOf];omega
         ·have dk:decide (1<=(k:Int))=false:=by simp;omega
          by_cases h18:i+2<=b
          ·have d18:decide (2<=(b:Int)-(i:Int))=true:=by simp;omega
           go_wp2
           go_loopw [10] (fun kv wr=>∃k:Nat,kv= .int .i64 (k:Int)/\1<=k/\k<=b/\Hid (Az c t g l0 B wr)) (fun kv _=>b-(intOf kv).toNat)
           case atStart=>exact⟨i+1,by go_num,by omega,by omega,HP⟩
           case round=>
            obtain⟨k,rfl,hk1,hkb,HP⟩:=hrel;obtain⟨c0,c1⟩:=HC.out _ HP.out;by_cases hk:k<b
            ·have dk:=Wu (show k<b by omega)
             go_wp2_with fail
             have hl:=HH.out.less HB0.out HP.out (k) (k-1) (by omega) (by omega);try push_cast at hl
             rw[show((k-1:Nat):Int)=(k:Int)-1 from by omega]at hl;refine hl.mono ?_;clear hl;rintro en w7 ⟨k7,rfl,hp⟩;have HP7:=AA hp;obtain⟨c0,c1⟩:=HC.out _ hp;clear hp;cases k7 with
             |true=>
              obtain⟨w8,xK,hp⟩:=HH.out.swap HB0.out HP7.out (k) (k-1) (by omega) (by omega) (by omega);try push_cast at xK
              rw[show((k-1:Nat):Int)=(k:Int)-1 from by omega]at xK;have HP8:=AA hp;obtain⟨c0',c1'⟩:=HC.out _ hp;clear hp;go_wp2;go_roundw
              case rel=>exact⟨k+1,by go_num,by omega,by omega,HP8⟩
              case measure=>simp[intOf];omega
             |false=>
              go_wp2;go_roundw
              case rel=>exact⟨i,j+1,rfl,by go_num,by omega,by omega,by omega,HP7⟩
              case measure=>simp[intOf];omega
            ·have dk:=Wv (show b<=k by omega)
             go_wp2;go_roundw
             case rel=>exact⟨i,j+1,rfl,by go_num,by omega,by omega,by omega,HP⟩
             case measure=>simp[intOf];omega
          ·have d18:decide (2<=(b:Int)-(i:Int))=false:=by simp;omega
           go_wp2;go_roundw
           case rel=>exact⟨i,j+1,rfl,by go_num,by omega,by omega,by omega,HP⟩
           case measure=>simp[intOf];omega
       ·have d12:decide (2<=(i:Int)-(a:Int))=false:=by simp;omega
        by_cases h18:i+2<=b
        ·have d18:decide (2<=(b:Int)-(i:Int))=true:=by simp;omega
         go_wp2
         go_loopw [10] (fun kv wr=>∃k:Nat,kv= .int .i64 (k:Int)/\1<=k/\k<=b/\Hid (Az c t g l0 B wr)) (fun kv _=>b-(intOf kv).toNat)
         case atStart=>exact⟨i+1,by go_num,by omega,by omega,HP4⟩
         case round=>
          obtain⟨k,rfl,hk1,hkb,HP⟩:=hrel;obtain⟨c0,c1⟩:=HC.out _ HP.out;by_cases hk:k<b
          ·have dk:=Wu (show k<b by omega)
           go_wp2_with fail
           have hl:=HH.out.less HB0.out HP.out (k) (k-1) (by omega) (by omega);try push_cast at hl
           rw[show((k-1:Nat):Int)=(k:Int)-1 from by omega]at hl;refine hl.mono ?_;clear hl;rintro en w7 ⟨k7,rfl,hp⟩;have HP7:=AA hp;obtain⟨c0,c1⟩:=HC.out _ hp;clear hp;cases k7 with
           |true=>
            obtain⟨w8,xK,hp⟩:=HH.out.swap HB0.out HP7.out (k) (k-1) (by omega) (by omega) (by omega);try push_cast at xK
            rw[show((k-1:Nat):Int)=(k:Int)-1 from by omega]at xK;have HP8:=AA hp;obtain⟨c0',c1'⟩:=HC.out _ hp;clear hp;go_wp2;go_roundw
            case rel=>exact⟨k+1,by go_num,by omega,by omega,HP8⟩
            case measure=>simp[intOf];omega
           |false=>
            go_wp2;go_roundw
            case rel=>exact⟨i,j+1,rfl,by go_num,by omega,by omega,by omega,HP7⟩
            case measure=>simp[intOf];omega
          ·have dk:=Wv (show b<=k by omega)
           go_wp2;go_roundw
           case rel=>exact⟨i,j+1,rfl,by go_num,by omega,by omega,by omega,HP⟩
           case measure=>simp[intOf];omega
        ·have d18:decide (2<=(b:Int)-(i:Int))=false:=by simp;omega
         go_wp2;go_roundw
         case rel=>exact⟨i,j+1,rfl,by go_num,by omega,by omega,by omega,HP4⟩
         case measure=>simp[intOf];omega
    ·have d1:=Wv (show b<=i by omega)
     have e1:((i:Int)==(b:Int))=true:=by simp;omega
     go_wp2;go_ret;exact⟨true,rfl,xt.out _ HP.out⟩
  ·have dj:decide ((j:Int)<5)=false:=by simp;omega
   go_wp2;go_ret;exact⟨false,rfl,xt.out _ HP.out⟩
end
section
variable {α:Type}{c:Bc α}{t:TypeId}{w0:World}{g n f F:Nat}{sb lb:Array Value}{lt:α->α->Bool}{l0:List α}
theorem Cx(H:Srt c t w0 g n f F sb lb lt l0)(a b p:Nat)(w:World)(hw:Az c t g l0 w0 w)(hab:a+12<b)(hb:b<=n)(hpn:p<n):Calls prog 234 #[.agg #[.func (.func F) #[] lb,.func (.func f) #[] sb],.int .i64 (a:Int),.int .i64 (b:Int),.int .i64 (p:Int)] w fun e w'=>∃k:Nat,e= .returned (.int .i64 (k:Int))/\a<k/\k<=b/\Az c t g l0 w w':=by
 have HH:=AA H;have hgw:g<w.heap.size:=hw.glt;obtain⟨B,hB⟩:=Wr (w.alloc (.cells #[.func (.func F) #[] lb,.func (.func f) #[] sb] 190));have h0B:Az c t g l0 w0 B:=by rw[hB];exact hw.alloc _
 have hBB:Az c t g l0 B B:=h0B.self;have hBx:Blk B w.heap.size 190 #[.func (.func F) #[] lb,.func (.func f) #[] sb]:=by rw[hB];exact Blk.new _ _ _
 have xt:Hid (∀V,Az c t g l0 B V->Az c t g l0 w V):=fun V h=>by rw[hB]at h;exact h.off
 have HB0:=AA h0B;have HC:Hid (∀V,Az c t g l0 B V->V.cell? ⟨w.heap.size,0,none⟩=some (.func (.func F) #[] lb)/\V.cell? ⟨w.heap.size,1,none⟩=some (.func (.func f) #[] sb)):=fun V h=>⟨(h.box hBx (by omega)).cell 0,(h.box hBx (by omega)).cell 1⟩
 have eg:=H.eg;have hn6:=H.small;have HW:=AA hB;have HBB:=AA hBB;clear hw hB h0B hBB hBx H;go_enter func234,ntmps234;go_upto_region 1 with fail
 simp only[<-HW.out];obtain⟨c0,c1⟩:=HC.out _ HBB.out;obtain⟨w2,xK,hp⟩:=HH.out.swap HB0.out HBB.out (a) (p) (by omega) (by omega) (by omega);try push_cast at xK
 have HP2:=AA hp;obtain⟨c0',c1'⟩:=HC.out _ hp;clear hp;go_upto_region 3 with fail
 go_wp2
 go_loopw [9,10] (fun iv jv wr=>∃i j:Nat,iv= .int .i64 (i:Int)/\jv= .int .i64 (j:Int)/\a+1<=i/\i<=b/\a<=j/\j+1<=b/\i<=j+2/\Hid (Az c t g l0 B wr)) (fun iv jv _=>(intOf jv).toNat+(b-(intOf iv).toNat))
 case atStart=>exact⟨a+1,b-1,by go_num,by go_num,by omega,by omega,by omega,by omega,by omega,HP2⟩
 case round=>
  obtain⟨i,j,rfl,rfl,hi,hib,haj,hjb,hij,HP⟩:=hrel;go_wp2
  go_loopw [9] (fun iv wr=>∃zz:Nat,iv= .int .i64 (zz:Int)/\i<=zz/\zz<=b/\zz<=(j)+2/\Hid (Az c t g l0 B wr)) (fun iv _=>b-(intOf iv).toNat)
  case atStart=>exact⟨i,by go_num,by omega,by omega,by omega,HP⟩
  case round=>
   obtain⟨i11,rfl,hi11,hi11',hi11'',hFA⟩:=hrel;obtain⟨c0,c1⟩:=HC.out _ hFA.out;by_cases hc:i11<=j
   ·have dc:decide ((i11:Int)<=(j:Int))=true:=by simp;omega
    go_wp2_with fail
    have hl:=HH.out.less HB0.out hFA.out (a) (i11) (by omega) (by omega);try push_cast at hl
    refine hl.mono ?_;clear hl;rintro en w13 ⟨k13,rfl,hp⟩;have hHa:=AA hp;obtain⟨c0,c1⟩:=HC.out _ hp;clear hp;cases k13 with
    |false=>
     go_wp2;go_roundw
     case rel=>exact⟨i11+1,by go_num,by omega,by omega,by omega,hHa⟩
     case measure=>simp[intOf];omega
    |true=>
     go_wp2
     go_loopw [10] (fun iv wr=>∃zz:Nat,iv= .int .i64 (zz:Int)/\a<=zz/\zz<=j/\i11<=zz+2/\Hid (Az c t g l0 B wr)) (fun iv _=>(intOf iv).toNat)
     case atStart=>exact⟨j,by go_num,by omega,by omega,by omega,hHa⟩
     case round=>
      obtain⟨j14,rfl,hj14,hj14',hj14'',hFB⟩:=hrel;obtain⟨c0,c1⟩:=HC.out _ hFB.out;by_cases hc:i11<=j14
      ·have dc:decide ((i11:Int)<=(j14:Int))=true:=by simp;omega
       go_wp2_with fail
       have hl:=HH.out.less HB0.out hFB.out (a) (j14) (by omega) (by omega);try push_cast at hl
       refine hl.mono ?_;clear hl;rintro en w16 ⟨k16,rfl,hp⟩;have hHb:=AA hp;obtain⟨c0,c1⟩:=HC.out _ hp;clear hp;cases k16 with
       |true=>
        go_wp2;go_roundw
        case rel=>exact⟨j14-1,by go_num,by omega,by omega,by omega,hHb⟩
        case measure=>simp[intOf];omega
       |false=>
        have dc2:=Wv (show i11<=j14 by omega)
        have dc3:decide (j14<i11)=false:=by simp;omega
        obtain⟨w17,xK,hp⟩:=HH.out.swap HB0.out hHb.out (i11) (j14) (by omega) (by omega) (by omega);try push_cast at xK
        have HP17:=AA hp;obtain⟨c0',c1'⟩:=HC.out _ hp;clear hp;go_wp2;go_roundw
        case rel=>exact⟨i11+1,j14-1,by go_num,by go_num,by omega,by omega,by omega,by omega,by omega,HP17⟩
        case measure=>simp[intOf];omega
      ·have dc:decide ((i11:Int)<=(j14:Int))=false:=by simp;omega
       have dc2:=Wu (show j14<i11 by omega)
       have dc3:decide (j14<i11)=true:=by simp;omega
       go_wp2;go_ret;exact⟨i11,rfl,by omega,by omega,xt.out _ hFB.out⟩
   ·have dc:decide ((i11:Int)<=(j:Int))=false:=by simp;omega
    go_wp2
    go_loopw [10] (fun iv wr=>∃zz:Nat,iv= .int .i64 (zz:Int)/\a<=zz/\zz<=j/\i11<=zz+2/\Hid (Az c t g l0 B wr)) (fun iv _=>(intOf iv).toNat)
    case atStart=>exact⟨j,by go_num,by omega,by omega,by omega,hFA⟩
    case round=>
     obtain⟨j18,rfl,hj18,hj18',hj18'',hHc⟩:=hrel;obtain⟨c0,c1⟩:=HC.out _ hHc.out;have hc:¬i11<=j18:=by omega
     have dc:decide ((i11:Int)<=(j18:Int))=false:=by simp;omega
     have dc2:=Wu (show j18<i11 by omega)
     have dc3:decide (j18<i11)=true:=by simp;omega
     go_wp2;go_ret;exact⟨i11,rfl,by omega,by omega,xt.out _ hHc.out⟩
theorem B8(H:Srt c t w0 g n f F sb lb lt l0)(a b p:Nat)(w:World)(hw:Az c t g l0 w0 w)(hab:a+12<b)(hb:b<=n)(hpn:p<n):Calls prog 235 #[.agg #[.func (.func F) #[] lb,.func (.func f) #[] sb],.int .i64 (a:Int),.int .i64 (b:Int),.int .i64 (p:Int)] w fun e w'=>∃(k:Nat) (z:Bool),e= .returned (.tuple #[.int .i64 (k:Int),.bool z])/\a<=k/\k<b/\Az c t g l0 w w':=by
 have HH:=AA H;have hgw:g<w.heap.size:=hw.glt;obtain⟨B,hB⟩:=Wr (w.alloc (.cells #[.func (.func F) #[] lb,.func (.func f) #[] sb] 190));have h0B:Az c t g l0 w0 B:=by rw[hB];exact hw.alloc _
 have hBB:Az c t g l0 B B:=h0B.self;have hBx:Blk B w.heap.size 190 #[.func (.func F) #[] lb,.func (.func f) #[] sb]:=by rw[hB];exact Blk.new _ _ _
 have xt:Hid (∀V,Az c t g l0 B V->Az c t g l0 w V):=fun V h=>by rw[hB]at h;exact h.off
 have HB0:=AA h0B;have HC:Hid (∀V,Az c t g l0 B V->V.cell? ⟨w.heap.size,0,none⟩=some (.func (.func F) #[] lb)/\V.cell? ⟨w.heap.size,1,none⟩=some (.func (.func f) #[] sb)):=fun V h=>⟨(h.box hBx (by omega)).cell 0,(h.box hBx (by omega)).cell 1⟩
 have eg:=H.eg;have hn6:=H.small;have HW:=AA hB;have HBB:=AA hBB;clear hw hB h0B hBB hBx H;go_enter func235,ntmps235;go_upto_region 1 with fail
 simp only[<-HW.out];obtain⟨c0,c1⟩:=HC.out _ HBB.out;obtain⟨w2,xK,hp⟩:=HH.out.swap HB0.out HBB.out (a) (p) (by omega) (by omega) (by omega);try push_cast at xK
 have HP2:=AA hp;obtain⟨c0',c1'⟩:=HC.out _ hp;clear hp;go_upto_region 3 with fail
 go_wp2
 go_loopw [10] (fun iv wr=>∃zz:Nat,iv= .int .i64 (zz:Int)/\(a+1)<=zz/\zz<=b/\zz<=((b-1))+2/\Hid (Az c t g l0 B wr)) (fun iv _=>b-(intOf iv).toNat)
 case atStart=>exact⟨(a+1),by go_num,by omega,by omega,by omega,HP2⟩
 case round=>
  obtain⟨i21,rfl,hi21,hi21',hi21'',hFC⟩:=hrel;obtain⟨c0,c1⟩:=HC.out _ hFC.out;by_cases hc:i21<=(b-1)
  ·have dc:decide ((i21:Int)<=((b:Int)-1))=true:=by simp;omega
   go_wp2_with fail
   have hl:=HH.out.less HB0.out hFC.out (i21) (a) (by omega) (by omega);try push_cast at hl
   refine hl.mono ?_;clear hl;rintro en w23 ⟨k23,rfl,hp⟩;have hHd:=AA hp;obtain⟨c0,c1⟩:=HC.out _ hp;clear hp;cases k23 with
   |true=>
    go_wp2;go_roundw
    case rel=>exact⟨i21+1,by go_num,by omega,by omega,by omega,hHd⟩
    case measure=>simp[intOf];omega
   |false=>
    go_wp2
    go_loopw [11] (fun iv wr=>∃zz:Nat,iv= .int .i64 (zz:Int)/\a<=zz/\zz<=(b-1)/\i21<=zz+2/\Hid (Az c t g l0 B wr)) (fun iv _=>(intOf iv).toNat)
    case atStart=>exact⟨(b-1),by go_num,by omega,by omega,by omega,hHd⟩
    case round=>
     obtain⟨j24,rfl,hj24,hj24',hj24'',hFD⟩:=hrel;obtain⟨c0,c1⟩:=HC.out _ hFD.out;by_cases hc:i21<=j24
     ·have dc:decide ((i21:Int)<=(j24:Int))=true:=by simp;omega
      go_wp2_with fail
      have hl:=HH.out.less HB0.out hFD.out (j24) (a) (by omega) (by omega);try push_cast at hl
      refine hl.mono ?_;clear hl;rintro en w26 ⟨k26,rfl,hp⟩;have hHe:=AA hp;obtain⟨c0,c1⟩:=HC.out _ hp;clear hp;cases k26 with
      |false=>
       go_wp2;go_roundw
       case rel=>exact⟨j24-1,by go_num,by omega,by omega,by omega,hHe⟩
       case measure=>simp[intOf];omega
      |true=>
       have dc2:=Wv (show i21<=j24 by omega)
       have dc3:decide (j24<i21)=false:=by simp;omega
       obtain⟨w27,xK,hp⟩:=HH.out.swap HB0.out hHe.out (i21) (j24) (by omega) (by omega) (by omega);try push_cast at xK
       have HP27:=AA hp;obtain⟨c0',c1'⟩:=HC.out _ hp;clear hp;go_wp2
       go_loopw [10,11] (fun iv jv wr=>∃i j:Nat,iv= .int .i64 (i:Int)/\jv= .int .i64 (j:Int)/\a+1<=i/\i<=b/\a<=j/\j+1<=b/\i<=j+2/\Hid (Az c t g l0 B wr)) (fun iv jv _=>(intOf jv).toNat+(b-(intOf iv).toNat))
       case atStart=>exact⟨i21+1,j24-1,by go_num,by go_num,by omega,by omega,by omega,by omega,by omega,HP27⟩
       case round=>
        obtain⟨i,j,rfl,rfl,hi,hib,haj,hjb,hij,HP⟩:=hrel;go_wp2
        go_loopw [10] (fun iv wr=>∃zz:Nat,iv= .int .i64 (zz:Int)/\i<=zz/\zz<=b/\zz<=(j)+2/\Hid (Az c t g l0 B wr)) (fun iv _=>b-(intOf iv).toNat)
        case atStart=>exact⟨i,by go_num,by omega,by omega,by omega,HP⟩
        case round=>
         obtain⟨i28,rfl,hi28,hi28',hi28'',hFE⟩:=hrel;obtain⟨c0,c1⟩:=HC.out _ hFE.out;by_cases hc:i28<=j
         ·have dc:decide ((i28:Int)<=(j:Int))=true:=by simp;omega
          go_wp2_with fail
          have hl:=HH.out.less HB0.out hFE.out (i28) (a) (by omega) (by omega);try push_cast at hl
          refine hl.mono ?_;clear hl;rintro en w30 ⟨k30,rfl,hp⟩;have hHf:=AA hp;obtain⟨c0,c1⟩:=HC.out _ hp;clear hp;cases k30 with
          |true=>
           go_wp2;go_roundw
           case rel=>exact⟨i28+1,by go_num,by omega,by omega,by omega,hHf⟩
           case measure=>simp[intOf];omega
          |false=>
           go_wp2
           go_loopw [11] (fun iv wr=>∃zz:Nat,iv= .int .i64 (zz:Int)/\a<=zz/\zz<=j/\i28<=zz+2/\Hid (Az c t g l0 B wr)) (fun iv _=>(intOf iv).toNat)
           case atStart=>exact⟨j,by go_num,by omega,by omega,by omega,hHf⟩
           case round=>
            obtain⟨j31,rfl,hj31,hj31',hj31'',hFF⟩:=hrel;obtain⟨c0,c1⟩:=HC.out _ hFF.out;by_cases hc:i28<=j31
            ·have dc:decide ((i28:Int)<=(j31:Int))=true:=by simp;omega
             go_wp2_with fail
             have hl:=HH.out.less HB0.out hFF.out (j31) (a) (by omega) (by omega);try push_cast at hl
             refine hl.mono ?_;clear hl;rintro en w33 ⟨k33,rfl,hp⟩;have hHg:=AA hp;obtain⟨c0,c1⟩:=HC.out _ hp;clear hp;cases k33 with
             |false=>
              go_wp2;go_roundw
              case rel=>exact⟨j31-1,by go_num,by omega,by omega,by omega,hHg⟩
              case measure=>simp[intOf];omega
             |true=>
              have dc2:=Wv (show i28<=j31 by omega)
              have dc3:decide (j31<i28)=false:=by simp;omega
              obtain⟨w34,xK,hp⟩:=HH.out.swap HB0.out hHg.out (i28) (j31) (by omega) (by omega) (by omega);try push_cast at xK
              have HP34:=AA hp;obtain⟨c0',c1'⟩:=HC.out _ hp;clear hp;go_wp2;go_roundw
              case rel=>exact⟨i28+1,j31-1,by go_num,by go_num,by omega,by omega,by omega,by omega,by omega,HP34⟩
              case measure=>simp[intOf];omega
            ·have dc:decide ((i28:Int)<=(j31:Int))=false:=by simp;omega
             have dc2:=Wu (show j31<i28 by omega)
             have dc3:decide (j31<i28)=true:=by simp;omega
             obtain⟨w35,xK,hp⟩:=HH.out.swap HB0.out hFF.out (j31) (a) (by omega) (by omega) (by omega);try push_cast at xK
             have HP35:=AA hp;obtain⟨c0',c1'⟩:=HC.out _ hp;clear hp;go_wp2;go_ret2;exact⟨j31,false,rfl,by omega,by omega,xt.out _ HP35.out⟩
         ·have dc:decide ((i28:Int)<=(j:Int))=false:=by simp;omega
          go_wp2
          go_loopw [11] (fun iv wr=>∃zz:Nat,iv= .int .i64 (zz:Int)/\a<=zz/\zz<=j/\i28<=zz+2/\Hid (Az c t g l0 B wr)) (fun iv _=>(intOf iv).toNat)
          case atStart=>exact⟨j,by go_num,by omega,by omega,by omega,hFE⟩
          case round=>
           obtain⟨j36,rfl,hj36,hj36',hj36'',hHh⟩:=hrel;obtain⟨c0,c1⟩:=HC.out _ hHh.out;have hc:¬i28<=j36:=by omega
           have dc:decide ((i28:Int)<=(j36:Int))=false:=by simp;omega
           have dc2:=Wu (show j36<i28 by omega)
           have dc3:decide (j36<i28)=true:=by simp;omega
           obtain⟨w39,xK,hp⟩:=HH.out.swap HB0.out hHh.out (j36) (a) (by omega) (by omega) (by omega);try push_cast at xK
           have HP39:=AA hp;obtain⟨c0',c1'⟩:=HC.out _ hp;clear hp;go_wp2;go_ret2;exact⟨j36,false,rfl,by omega,by omega,xt.out _ HP39.out⟩
     ·have dc:decide ((i21:Int)<=(j24:Int))=false:=by simp;omega
      have dc2:=Wu (show j24<i21 by omega)
      have dc3:decide (j24<i21)=true:=by simp;omega
      obtain⟨w40,xK,hp⟩:=HH.out.swap HB0.out hFD.out (j24) (a) (by omega) (by omega) (by omega);try push_cast at xK
      have HP40:=AA hp;obtain⟨c0',c1'⟩:=HC.out _ hp;clear hp;go_wp2;go_ret2;exact⟨j24,true,rfl,by omega,by omega,xt.out _ HP40.out⟩
  ·have dc:decide ((i21:Int)<=((b:Int)-1))=false:=by simp;omega
   go_wp2
   go_loopw [11] (fun iv wr=>∃zz:Nat,iv= .int .i64 (zz:Int)/\a<=zz/\zz<=(b-1)/\i21<=zz+2/\Hid (Az c t g l0 B wr)) (fun iv _=>(intOf iv).toNat)
   case atStart=>exact⟨(b-1),by go_num,by omega,by omega,by omega,hFC⟩
   case round=>
    obtain⟨j41,rfl,hj41,hj41',hj41'',hHi⟩:=hrel;obtain⟨c0,c1⟩:=HC.out _ hHi.out;have hc:¬i21<=j41:=by omega
    have dc:decide ((i21:Int)<=(j41:Int))=false:=by simp;omega
    have dc2:=Wu (show j41<i21 by omega)
    have dc3:decide (j41<i21)=true:=by simp;omega
    obtain⟨w44,xK,hp⟩:=HH.out.swap HB0.out hHi.out (j41) (a) (by omega) (by omega) (by omega);try push_cast at xK
    have HP44:=AA hp;obtain⟨c0',c1'⟩:=HC.out _ hp;clear hp;go_wp2;go_ret2;exact⟨j41,true,rfl,by omega,by omega,xt.out _ HP44.out⟩
end
end
end Go.Proofs.YtadllffeoibelaaGreat
