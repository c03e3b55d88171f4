/-
  Parts of the proof. No condition.
-/
import Derived.Test.YtadllffeoibelaaGreatS9
open Go.Proofs.Tryz
namespace Go.Proofs.YtadllffeoibelaaGreat
set_option maxRecDepth 100000
set_option maxHeartbeats 32000000
set_option linter.all false
section
open Go.RowKit
section
variable {α:Type}{c:Bc α}{t:TypeId}{w0:World}{g n f F:Nat}{sb lb:Array Value}{lt:α->α->Bool}{l0:List α}
theorem Az.gltW{A B:World}(h:Az c t g l0 A B):g<B.heap.size:=by
 obtain⟨l,h1,_⟩:=h;exact h1.blk.lt
theorem JC(H:Srt c t w0 g n f F sb lb lt l0)(HB:UQ c t w0 g n f F sb lb l0):∀(m A Z L0:Nat) (w:World),Az c t g l0 w0 w->A<=Z->Z<=n->Z-A<=m->L0<=1000000->Calls prog 169 #[.agg #[.func (.func F) #[] lb,.func (.func f) #[] sb],.int .i64 (A:Int),.int .i64 (Z:Int),.int .i64 (L0:Int)] w fun e w'=>e= .returned (.tuple #[])/\Az c t g l0 w w':=by
 intro m
 induction m using Nat.strongRecOn with
 |_ m ih=>
 intro A Z L0 w hw hAZ hZn hZm hL0;have HIH:Hid (∀(a b L:Nat) (w:World),Az c t g l0 w0 w->a<=b->b<=n->b-a<m->L<=1000000->Calls prog 169 #[.agg #[.func (.func F) #[] lb,.func (.func f) #[] sb],.int .i64 (a:Int),.int .i64 (b:Int),.int .i64 (L:Int)] w fun e w'=>e= .returned (.tuple #[])/\Az c t g l0 w w'):=
  fun a b L w h1 h2 h3 h4 h5=>ih (b-a) h4 a b L w h1 h2 h3 (AB _) h5
 have HBr:=AA HB;clear ih HB;have HH:=AA H;have hgw:g<w.heap.size:=hw.glt;obtain⟨B,hB⟩:=Wr (w.alloc (.cells #[.func (.func F) #[] lb,.func (.func f) #[] sb] 190));have h0B:Az c t g l0 w0 B:=by rw[hB];exact hw.alloc _
 have hBB:Az c t g l0 B B:=h0B.self;have hBx:Blk B w.heap.size 190 #[.func (.func F) #[] lb,.func (.func f) #[] sb]:=by rw[hB];exact Blk.new _ _ _
 have xt:Hid (∀V,Az c t g l0 B V->Az c t g l0 w V):=fun V h=>by rw[hB]at h;exact h.off
 have HB0:=AA h0B;have HC:Hid (∀V,Az c t g l0 B V->V.cell? ⟨w.heap.size,0,none⟩=some (.func (.func F) #[] lb)/\V.cell? ⟨w.heap.size,1,none⟩=some (.func (.func f) #[] sb)):=fun V h=>⟨(h.box hBx (by omega)).cell 0,(h.box hBx (by omega)).cell 1⟩
 have eg:=H.eg;have hn6:=H.small;have HW:=AA hB;have HBB:=AA hBB;clear hw hB h0B hBB hBx H;go_enter func169,ntmps169;go_upto_region 1 with fail
 simp only[<-HW.out];go_upto_region 3 with fail
 go_loopw [1,2,3,8,9] (fun av bv lv xv yv wr=>∃(a b L:Nat) (wb wp:Bool),av= .int .i64 (a:Int)/\bv= .int .i64 (b:Int)/\lv= .int .i64 (L:Int)/\xv= .bool wb/\yv= .bool wp/\a<=b/\b<=n/\b-a<=m/\L<=1000000/\Hid (Az c t g l0 B wr)) (fun av bv _ _ _ _=>(intOf bv).toNat-(intOf av).toNat)
 case atStart=>exact⟨A,Z,L0,true,true,rfl,rfl,rfl,rfl,rfl,hAZ,hZn,hZm,hL0,HBB⟩
 case round=>
  clear hAZ hZn hZm hL0;obtain⟨a,b,L,wb,wp,rfl,rfl,rfl,rfl,rfl,hab,hbn,hbm,hL,HP⟩:=hrel;obtain⟨c0,c1⟩:=HC.out _ HP.out;by_cases h12:b<=a+12
  ·have d12:decide ((b:Int)-(a:Int)<=12)=true:=by simp;omega
   go_wp2_with (go_at_call 179;refine(NC HH.out a b _ (HB0.out.trans HP.out) (by omega) (by omega)).mono ?_;rintro en w2 ⟨rfl,hp⟩;have HP2:=AA (HP.out.trans hp);obtain⟨c0,c1⟩:=HC.out _ (HP.out.trans hp);clear hp)
   first
    |go_end0
    |refine bodyPost_ret (results_none rfl _ _ _) rfl ?_
   exact⟨rfl,xt.out _ HP2.out⟩
  ·have d12:decide ((b:Int)-(a:Int)<=12)=false:=by simp;omega
   rcases Nat.eq_zero_or_pos L with hL0|hL0
   ·subst hL0;go_wp2_with (go_at_call 229;refine(L8 HH.out a b _ (HB0.out.trans HP.out) (by omega) (by omega)).mono ?_;rintro en w2 ⟨rfl,hp⟩;have HP2:=AA (HP.out.trans hp);obtain⟨c0,c1⟩:=HC.out _ (HP.out.trans hp);clear hp)
    first
     |go_end0
     |refine bodyPost_ret (results_none rfl _ _ _) rfl ?_
    exact⟨rfl,xt.out _ HP2.out⟩
   ·have e0:((L:Int)==0)=false:=by simp;omega
    cases wb with
    |false=>
     obtain⟨L,rfl⟩:∃L',L=L'+1:=⟨L-1,by omega⟩;go_upto_region 10 with(go_at_call 230;refine(HBr.out a b _ (HB0.out.trans HP.out) (by omega) (by omega)).mono ?_;rintro en w2 ⟨rfl,hp⟩;have HP2:=AA (HP.out.trans hp);obtain⟨c0,c1⟩:=HC.out _ (HP.out.trans hp);clear hp)
     go_upto_region 12 with(go_at_call 231;refine(LP HH.out a b _ (HB0.out.trans HP2.out) (HP2.out.gltW) (by omega) (by omega)).mono ?_;rintro en w101 ⟨x,h,rfl,hx,hp⟩;have zU:=AA (HP2.out.trans hp);obtain⟨c0,c1⟩:=HC.out _ (HP2.out.trans hp);clear hp)
     by_cases h2:h=2
     ·subst h2;obtain⟨y,hy⟩:=Wr ((b-1)-(x-a));have hyI:(b:Int)-1-((x:Int)-(a:Int))=(y:Int):=by omega
      have hyb:a<=y/\y<b:=by omega
      clear hy;go_upto_region 14 with(go_at_call 232;refine(FM HH.out a b _ (HB0.out.trans zU.out) (by omega) (by omega)).mono ?_;rintro en w102 ⟨rfl,hp⟩;have hBl:=AA (zU.out.trans hp);obtain⟨c0,c1⟩:=HC.out _ (zU.out.trans hp);clear hp)
      go_upto_region 18 with fail
      by_cases ha:0<a
      ·have da:decide (0<(a:Int))=true:=by simp;omega
       go_wp2_with fail
       have hl:=HH.out.less HB0.out hBl.out (a-1) (y) (by omega) (by omega);try push_cast at hl
       rw[show((a-1:Nat):Int)=(a:Int)-1 from by omega]at hl;refine hl.mono ?_;clear hl;rintro en w103 ⟨k103,rfl,hp⟩;have zw:=AA hp;obtain⟨c0,c1⟩:=HC.out _ hp;clear hp;cases k103 with
       |true=>
        go_upto_region 22 with(go_at_call 235;refine(B8 HH.out a b y _ (HB0.out.trans zw.out) (by omega) (by omega) (by omega)).mono ?_;rintro en w105 ⟨k105,z105,rfl,hk1,hk2,hp⟩;have zx:=AA (zw.out.trans hp);obtain⟨c0,c1⟩:=HC.out _ (zw.out.trans hp);clear hp)
        by_cases hlr:k105-a<b-k105
        ·have dlr:decide ((k105:Int)-(a:Int)<(b:Int)-(k105:Int))=true:=by simp;omega
         go_wp2_with (go_at_call 169;refine(HIH.out a k105 L _ (HB0.out.trans zx.out) (by omega) (by omega) (by omega) (by omega)).mono ?_;rintro en w106 ⟨rfl,hp⟩;have hFH:=AA (zx.out.trans hp);obtain⟨c0,c1⟩:=HC.out _ (zx.out.trans hp);clear hp)
         go_roundw
         case rel=>exact⟨k105+1,b,L,_,_,by go_num,by go_num,rfl,rfl,rfl,by omega,by omega,by omega,by omega,hFH⟩
         case measure=>simp[intOf];omega
        ·have dlr:decide ((k105:Int)-(a:Int)<(b:Int)-(k105:Int))=false:=by simp;omega
         have hih:=HIH.out (k105+1) b L
         push_cast at hih
         have HI2:=AA hih;clear hih;go_wp2_with (go_at_call 169;refine(HI2.out _ (HB0.out.trans zx.out) (by omega) (by omega) (by omega) (by omega)).mono ?_;rintro en w107 ⟨rfl,hp⟩;have hFI:=AA (zx.out.trans hp);obtain⟨c0,c1⟩:=HC.out _ (zx.out.trans hp);clear hp)
         go_roundw
         case rel=>exact⟨a,k105,L,_,_,by go_num,by go_num,rfl,rfl,rfl,by omega,by omega,by omega,by omega,hFI⟩
         case measure=>simp[intOf];omega
       |false=>
        go_wp2_with (go_at_call 234;refine(Cx HH.out a b y _ (HB0.out.trans zw.out) (by omega) (by omega) (by omega)).mono ?_;rintro en w104 ⟨k104,rfl,hk1,hk2,hp⟩;have hFJ:=AA (zw.out.trans hp);obtain⟨c0,c1⟩:=HC.out _ (zw.out.trans hp);clear hp)
        go_roundw
        case rel=>exact⟨k104,b,L,_,_,by go_num,by go_num,rfl,rfl,rfl,by omega,by omega,by omega,by omega,hFJ⟩
        case measure=>simp[intOf];omega
      ·have da:decide (0<(a:Int))=false:=by simp;omega
       go_upto_region 22 with(go_at_call 235;refine(B8 HH.out a b y _ (HB0.out.trans hBl.out) (by omega) (by omega) (by omega)).mono ?_;rintro en w108 ⟨k108,z108,rfl,hk1,hk2,hp⟩;have zy:=AA (hBl.out.trans hp);obtain⟨c0,c1⟩:=HC.out _ (hBl.out.trans hp);clear hp)
       by_cases hlr:k108-a<b-k108
       ·have dlr:decide ((k108:Int)-(a:Int)<(b:Int)-(k108:Int))=true:=by simp;omega
        go_wp2_with (go_at_call 169;refine(HIH.out a k108 L _ (HB0.out.trans zy.out) (by omega) (by omega) (by omega) (by omega)).mono ?_;rintro en w109 ⟨rfl,hp⟩;have hFK:=AA (zy.out.trans hp);obtain⟨c0,c1⟩:=HC.out _ (zy.out.trans hp);clear hp)
        go_roundw
        case rel=>exact⟨k108+1,b,L,_,_,by go_num,by go_num,rfl,rfl,rfl,by omega,by omega,by omega,by omega,hFK⟩
        case measure=>simp[intOf];omega
       ·have dlr:decide ((k108:Int)-(a:Int)<(b:Int)-(k108:Int))=false:=by simp;omega
        have hih:=HIH.out (k108+1) b L
        push_cast at hih
        have HI2:=AA hih;clear hih;go_wp2_with (go_at_call 169;refine(HI2.out _ (HB0.out.trans zy.out) (by omega) (by omega) (by omega) (by omega)).mono ?_;rintro en w110 ⟨rfl,hp⟩;have hFL:=AA (zy.out.trans hp);obtain⟨c0,c1⟩:=HC.out _ (zy.out.trans hp);clear hp)
        go_roundw
        case rel=>exact⟨a,k108,L,_,_,by go_num,by go_num,rfl,rfl,rfl,by omega,by omega,by omega,by omega,hFL⟩
        case measure=>simp[intOf];omega
     ·have e2:(h==2)=false:=by simp[h2]
      go_upto_region 18 with fail
      by_cases ha:0<a
      ·have da:decide (0<(a:Int))=true:=by simp;omega
       go_wp2_with fail
       have hl:=HH.out.less HB0.out zU.out (a-1) (x) (by omega) (by omega);try push_cast at hl
       rw[show((a-1:Nat):Int)=(a:Int)-1 from by omega]at hl;refine hl.mono ?_;clear hl;rintro en w111 ⟨k111,rfl,hp⟩;have z7:=AA hp;obtain⟨c0,c1⟩:=HC.out _ hp;clear hp;cases k111 with
       |true=>
        go_upto_region 22 with(go_at_call 235;refine(B8 HH.out a b x _ (HB0.out.trans z7.out) (by omega) (by omega) (by omega)).mono ?_;rintro en w113 ⟨k113,z113,rfl,hk1,hk2,hp⟩;have z8:=AA (z7.out.trans hp);obtain⟨c0,c1⟩:=HC.out _ (z7.out.trans hp);clear hp)
        by_cases hlr:k113-a<b-k113
        ·have dlr:decide ((k113:Int)-(a:Int)<(b:Int)-(k113:Int))=true:=by simp;omega
         go_wp2_with (go_at_call 169;refine(HIH.out a k113 L _ (HB0.out.trans z8.out) (by omega) (by omega) (by omega) (by omega)).mono ?_;rintro en w114 ⟨rfl,hp⟩;have hFN:=AA (z8.out.trans hp);obtain⟨c0,c1⟩:=HC.out _ (z8.out.trans hp);clear hp)
         go_roundw
         case rel=>exact⟨k113+1,b,L,_,_,by go_num,by go_num,rfl,rfl,rfl,by omega,by omega,by omega,by omega,hFN⟩
         case measure=>simp[intOf];omega
        ·have dlr:decide ((k113:Int)-(a:Int)<(b:Int)-(k113:Int))=false:=by simp;omega
         have hih:=HIH.out (k113+1) b L
         push_cast at hih
         have HI2:=AA hih;clear hih;go_wp2_with (go_at_call 169;refine(HI2.out _ (HB0.out.trans z8.out) (by omega) (by omega) (by omega) (by omega)).mono ?_;rintro en w115 ⟨rfl,hp⟩;have hFO:=AA (z8.out.trans hp);obtain⟨c0,c1⟩:=HC.out _ (z8.out.trans hp);clear hp)
         go_roundw
         case rel=>exact⟨a,k113,L,_,_,by go_num,by go_num,rfl,rfl,rfl,by omega,by omega,by omega,by omega,hFO⟩
         case measure=>simp[intOf];omega
       |false=>
        go_wp2_with (go_at_call 234;refine(Cx HH.out a b x _ (HB0.out.trans z7.out) (by omega) (by omega) (by omega)).mono ?_;rintro en w112 ⟨k112,rfl,hk1,hk2,hp⟩;have hFP:=AA (z7.out.trans hp);obtain⟨c0,c1⟩:=HC.out _ (z7.out.trans hp);clear hp)
        go_roundw
        case rel=>exact⟨k112,b,L,_,_,by go_num,by go_num,rfl,rfl,rfl,by omega,by omega,by omega,by omega,hFP⟩
        case measure=>simp[intOf];omega
      ·have da:decide (0<(a:Int))=false:=by simp;omega
       go_upto_region 22 with(go_at_call 235;refine(B8 HH.out a b x _ (HB0.out.trans zU.out) (by omega) (by omega) (by omega)).mono ?_;rintro en w116 ⟨k116,z116,rfl,hk1,hk2,hp⟩;have hAA:=AA (zU.out.trans hp);obtain⟨c0,c1⟩:=HC.out _ (zU.out.trans hp);clear hp)
       by_cases hlr:k116-a<b-k116
       ·have dlr:decide ((k116:Int)-(a:Int)<(b:Int)-(k116:Int))=true:=by simp;omega
        go_wp2_with (go_at_call 169;refine(HIH.out a k116 L _ (HB0.out.trans hAA.out) (by omega) (by omega) (by omega) (by omega)).mono ?_;rintro en w117 ⟨rfl,hp⟩;have hFQ:=AA (hAA.out.trans hp);obtain⟨c0,c1⟩:=HC.out _ (hAA.out.trans hp);clear hp)
        go_roundw
        case rel=>exact⟨k116+1,b,L,_,_,by go_num,by go_num,rfl,rfl,rfl,by omega,by omega,by omega,by omega,hFQ⟩
        case measure=>simp[intOf];omega
       ·have dlr:decide ((k116:Int)-(a:Int)<(b:Int)-(k116:Int))=false:=by simp;omega
        have hih:=HIH.out (k116+1) b L
        push_cast at hih
        have HI2:=AA hih;clear hih;go_wp2_with (go_at_call 169;refine(HI2.out _ (HB0.out.trans hAA.out) (by omega) (by omega) (by omega) (by omega)).mono ?_;rintro en w118 ⟨rfl,hp⟩;have hFS:=AA (hAA.out.trans hp);obtain⟨c0,c1⟩:=HC.out _ (hAA.out.trans hp);clear hp)
        go_roundw
        case rel=>exact⟨a,k116,L,_,_,by go_num,by go_num,rfl,rfl,rfl,by omega,by omega,by omega,by omega,hFS⟩
        case measure=>simp[intOf];omega
    |true=>
     go_upto_region 12 with(go_at_call 231;refine(LP HH.out a b _ (HB0.out.trans HP.out) (HP.out.gltW) (by omega) (by omega)).mono ?_;rintro en w119 ⟨x,h,rfl,hx,hp⟩;have xy:=AA (HP.out.trans hp);obtain⟨c0,c1⟩:=HC.out _ (HP.out.trans hp);clear hp)
     by_cases h2:h=2
     ·subst h2;obtain⟨y,hy⟩:=Wr ((b-1)-(x-a));have hyI:(b:Int)-1-((x:Int)-(a:Int))=(y:Int):=by omega
      have hyb:a<=y/\y<b:=by omega
      clear hy;go_upto_region 14 with(go_at_call 232;refine(FM HH.out a b _ (HB0.out.trans xy.out) (by omega) (by omega)).mono ?_;rintro en w120 ⟨rfl,hp⟩;have zV:=AA (xy.out.trans hp);obtain⟨c0,c1⟩:=HC.out _ (xy.out.trans hp);clear hp)
      cases wp with
      |false=>
       go_upto_region 18 with fail
       by_cases ha:0<a
       ·have da:decide (0<(a:Int))=true:=by simp;omega
        go_wp2_with fail
        have hl:=HH.out.less HB0.out zV.out (a-1) (y) (by omega) (by omega);try push_cast at hl
        rw[show((a-1:Nat):Int)=(a:Int)-1 from by omega]at hl;refine hl.mono ?_;clear hl;rintro en w122 ⟨k122,rfl,hp⟩;have hAB:=AA hp;obtain⟨c0,c1⟩:=HC.out _ hp;clear hp;cases k122 with
        |true=>
         go_upto_region 22 with(go_at_call 235;refine(B8 HH.out a b y _ (HB0.out.trans hAB.out) (by omega) (by omega) (by omega)).mono ?_;rintro en w124 ⟨k124,z124,rfl,hk1,hk2,hp⟩;have hAC:=AA (hAB.out.trans hp);obtain⟨c0,c1⟩:=HC.out _ (hAB.out.trans hp);clear hp)
         by_cases hlr:k124-a<b-k124
         ·have dlr:decide ((k124:Int)-(a:Int)<(b:Int)-(k124:Int))=true:=by simp;omega
          go_wp2_with (go_at_call 169;refine(HIH.out a k124 L _ (HB0.out.trans hAC.out) (by omega) (by omega) (by omega) (by omega)).mono ?_;rintro en w125 ⟨rfl,hp⟩;have hFT:=AA (hAC.out.trans hp);obtain⟨c0,c1⟩:=HC.out _ (hAC.out.trans hp);clear hp)
          go_roundw
          case rel=>exact⟨k124+1,b,L,_,_,by go_num,by go_num,rfl,rfl,rfl,by omega,by omega,by omega,by omega,hFT⟩
          case measure=>simp[intOf];omega
         ·have dlr:decide ((k124:Int)-(a:Int)<(b:Int)-(k124:Int))=false:=by simp;omega
          have hih:=HIH.out (k124+1) b L
          push_cast at hih
          have HI2:=AA hih;clear hih;go_wp2_with (go_at_call 169;refine(HI2.out _ (HB0.out.trans hAC.out) (by omega) (by omega) (by omega) (by omega)).mono ?_;rintro en w126 ⟨rfl,hp⟩;have hFU:=AA (hAC.out.trans hp);obtain⟨c0,c1⟩:=HC.out _ (hAC.out.trans hp);clear hp)
          go_roundw
          case rel=>exact⟨a,k124,L,_,_,by go_num,by go_num,rfl,rfl,rfl,by omega,by omega,by omega,by omega,hFU⟩
          case measure=>simp[intOf];omega
        |false=>
         go_wp2_with (go_at_call 234;refine(Cx HH.out a b y _ (HB0.out.trans hAB.out) (by omega) (by omega) (by omega)).mono ?_;rintro en w123 ⟨k123,rfl,hk1,hk2,hp⟩;have hFW:=AA (hAB.out.trans hp);obtain⟨c0,c1⟩:=HC.out _ (hAB.out.trans hp);clear hp)
         go_roundw
         case rel=>exact⟨k123,b,L,_,_,by go_num,by go_num,rfl,rfl,rfl,by omega,by omega,by omega,by omega,hFW⟩
         case measure=>simp[intOf];omega
       ·have da:decide (0<(a:Int))=false:=by simp;omega
        go_upto_region 22 with(go_at_call 235;refine(B8 HH.out a b y _ (HB0.out.trans zV.out) (by omega) (by omega) (by omega)).mono ?_;rintro en w127 ⟨k127,z127,rfl,hk1,hk2,hp⟩;have hAD:=AA (zV.out.trans hp);obtain⟨c0,c1⟩:=HC.out _ (zV.out.trans hp);clear hp)
        by_cases hlr:k127-a<b-k127
        ·have dlr:decide ((k127:Int)-(a:Int)<(b:Int)-(k127:Int))=true:=by simp;omega
         go_wp2_with (go_at_call 169;refine(HIH.out a k127 L _ (HB0.out.trans hAD.out) (by omega) (by omega) (by omega) (by omega)).mono ?_;rintro en w128 ⟨rfl,hp⟩;have hFX:=AA (hAD.out.trans hp);obtain⟨c0,c1⟩:=HC.out _ (hAD.out.trans hp);clear hp)
         go_roundw
         case rel=>exact⟨k127+1,b,L,_,_,by go_num,by go_num,rfl,rfl,rfl,by omega,by omega,by omega,by omega,hFX⟩
         case measure=>simp[intOf];omega
        ·have dlr:decide ((k127:Int)-(a:Int)<(b:Int)-(k127:Int))=false:=by simp;omega
         have hih:=HIH.out (k127+1) b L
         push_cast at hih
         have HI2:=AA hih;clear hih;go_wp2_with (go_at_call 169;refine(HI2.out _ (HB0.out.trans hAD.out) (by omega) (by omega) (by omega) (by omega)).mono ?_;rintro en w129 ⟨rfl,hp⟩;have hFY:=AA (hAD.out.trans hp);obtain⟨c0,c1⟩:=HC.out _ (hAD.out.trans hp);clear hp)
         go_roundw
         case rel=>exact⟨a,k127,L,_,_,by go_num,by go_num,rfl,rfl,rfl,by omega,by omega,by omega,by omega,hFY⟩
         case measure=>simp[intOf];omega
      |true=>
       go_wp2_with fail
       refine(I4 HH.out a b _ (HB0.out.trans zV.out) (by omega) (by omega)).mono ?_;rintro en w121 ⟨k121,rfl,hp⟩;have hAg:=AA (zV.out.trans hp);obtain⟨c0,c1⟩:=HC.out _ (zV.out.trans hp);clear hp;cases k121
       ·go_upto_region 18 with fail
        by_cases ha:0<a
        ·have da:decide (0<(a:Int))=true:=by simp;omega
         go_wp2_with fail
         have hl:=HH.out.less HB0.out hAg.out (a-1) (y) (by omega) (by omega);try push_cast at hl
         rw[show((a-1:Nat):Int)=(a:Int)-1 from by omega]at hl;refine hl.mono ?_;clear hl;rintro en w130 ⟨k130,rfl,hp⟩;have hAE:=AA hp;obtain⟨c0,c1⟩:=HC.out _ hp;clear hp;cases k130 with
         |true=>
          go_upto_region 22 with(go_at_call 235;refine(B8 HH.out a b y _ (HB0.out.trans hAE.out) (by omega) (by omega) (by omega)).mono ?_;rintro en w132 ⟨k132,z132,rfl,hk1,hk2,hp⟩;have hAF:=AA (hAE.out.trans hp);obtain⟨c0,c1⟩:=HC.out _ (hAE.out.trans hp);clear hp)
          by_cases hlr:k132-a<b-k132
          ·have dlr:decide ((k132:Int)-(a:Int)<(b:Int)-(k132:Int))=true:=by simp;omega
           go_wp2_with (go_at_call 169;refine(HIH.out a k132 L _ (HB0.out.trans hAF.out) (by omega) (by omega) (by omega) (by omega)).mono ?_;rintro en w133 ⟨rfl,hp⟩;have hFZ:=AA (hAF.out.trans hp);obtain⟨c0,c1⟩:=HC.out _ (hAF.out.trans hp);clear hp)
           go_roundw
           case rel=>exact⟨k132+1,b,L,_,_,by go_num,by go_num,rfl,rfl,rfl,by omega,by omega,by omega,by omega,hFZ⟩
           case measure=>simp[intOf];omega
          ·have dlr:decide ((k132:Int)-(a:Int)<(b:Int)-(k132:Int))=false:=by simp;omega
           have hih:=HIH.out (k132+1) b L
           push_cast at hih
           have HI2:=AA hih;clear hih;go_wp2_with (go_at_call 169;refine(HI2.out _ (HB0.out.trans hAF.out) (by omega) (by omega) (by omega) (by omega)).mono ?_;rintro en w134 ⟨rfl,hp⟩;have hFa:=AA (hAF.out.trans hp);obtain⟨c0,c1⟩:=HC.out _ (hAF.out.trans hp);clear hp)
           go_roundw
           case rel=>exact⟨a,k132,L,_,_,by go_num,by go_num,rfl,rfl,rfl,by omega,by omega,by omega,by omega,hFa⟩
           case measure=>simp[intOf];omega
         |false=>
          go_wp2_with (go_at_call 234;refine(Cx HH.out a b y _ (HB0.out.trans hAE.out) (by omega) (by omega) (by omega)).mono ?_;rintro en w131 ⟨k131,rfl,hk1,hk2,hp⟩;have hFb:=AA (hAE.out.trans hp);obtain⟨c0,c1⟩:=HC.out _ (hAE.out.trans hp);clear hp)
          go_roundw
          case rel=>exact⟨k131,b,L,_,_,by go_num,by go_num,rfl,rfl,rfl,by omega,by omega,by omega,by omega,hFb⟩
          case measure=>simp[intOf];omega
        ·have da:decide (0<(a:Int))=false:=by simp;omega
         go_upto_region 22 with(go_at_call 235;refine(B8 HH.out a b y _ (HB0.out.trans hAg.out) (by omega) (by omega) (by omega)).mono ?_;rintro en w135 ⟨k135,z135,rfl,hk1,hk2,hp⟩;have hAG:=AA (hAg.out.trans hp);obtain⟨c0,c1⟩:=HC.out _ (hAg.out.trans hp);clear hp)
         by_cases hlr:k135-a<b-k135
         ·have dlr:decide ((k135:Int)-(a:Int)<(b:Int)-(k135:Int))=true:=by simp;omega
          go_wp2_with (go_at_call 169;refine(HIH.out a k135 L _ (HB0.out.trans hAG.out) (by omega) (by omega) (by omega) (by omega)).mono ?_;rintro en w136 ⟨rfl,hp⟩;have hFc:=AA (hAG.out.trans hp);obtain⟨c0,c1⟩:=HC.out _ (hAG.out.trans hp);clear hp)
          go_roundw
          case rel=>exact⟨k135+1,b,L,_,_,by go_num,by go_num,rfl,rfl,rfl,by omega,by omega,by omega,by omega,hFc⟩
          case measure=>simp[intOf];omega
         ·have dlr:decide ((k135:Int)-(a:Int)<(b:Int)-(k135:Int))=false:=by simp;omega
          have hih:=HIH.out (k135+1) b L
          push_cast at hih
          have HI2:=AA hih;clear hih;go_wp2_with (go_at_call 169;refine(HI2.out _ (HB0.out.trans hAG.out) (by omega) (by omega) (by omega) (by omega)).mono ?_;rintro en w137 ⟨rfl,hp⟩;have hFd:=AA (hAG.out.trans hp);obtain⟨c0,c1⟩:=HC.out _ (hAG.out.trans hp);clear hp)
          go_roundw
          case rel=>exact⟨a,k135,L,_,_,by go_num,by go_num,rfl,rfl,rfl,by omega,by omega,by omega,by omega,hFd⟩
          case measure=>simp[intOf];omega
       ·go_wp2
        first
         |go_end0
         |refine bodyPost_ret (results_none rfl _ _ _) rfl ?_
        exact⟨rfl,xt.out _ hAg.out⟩
     ·have e2:(h==2)=false:=by simp[h2]
      by_cases h1:h=1
      ·subst h1;cases wp with
       |false=>
        go_upto_region 18 with fail
        by_cases ha:0<a
        ·have da:decide (0<(a:Int))=true:=by simp;omega
         go_wp2_with fail
         have hl:=HH.out.less HB0.out xy.out (a-1) (x) (by omega) (by omega);try push_cast at hl
         rw[show((a-1:Nat):Int)=(a:Int)-1 from by omega]at hl;refine hl.mono ?_;clear hl;rintro en w139 ⟨k139,rfl,hp⟩;have hAH:=AA hp;obtain⟨c0,c1⟩:=HC.out _ hp;clear hp;cases k139 with
         |true=>
          go_upto_region 22 with(go_at_call 235;refine(B8 HH.out a b x _ (HB0.out.trans hAH.out) (by omega) (by omega) (by omega)).mono ?_;rintro en w141 ⟨k141,z141,rfl,hk1,hk2,hp⟩;have hAI:=AA (hAH.out.trans hp);obtain⟨c0,c1⟩:=HC.out _ (hAH.out.trans hp);clear hp)
          by_cases hlr:k141-a<b-k141
          ·have dlr:decide ((k141:Int)-(a:Int)<(b:Int)-(k141:Int))=true:=by simp;omega
           go_wp2_with (go_at_call 169;refine(HIH.out a k141 L _ (HB0.out.trans hAI.out) (by omega) (by omega) (by omega) (by omega)).mono ?_;rintro en w142 ⟨rfl,hp⟩;have hFe:=AA (hAI.out.trans hp);obtain⟨c0,c1⟩:=HC.out _ (hAI.out.trans hp);clear hp)
           go_roundw
           case rel=>exact⟨k141+1,b,L,_,_,by go_num,by go_num,rfl,rfl,rfl,by omega,by omega,by omega,by omega,hFe⟩
           case measure=>simp[intOf];omega
          ·have dlr:decide ((k141:Int)-(a:Int)<(b:Int)-(k141:Int))=false:=by simp;omega
           have hih:=HIH.out (k141+1) b L
           push_cast at hih
           have HI2:=AA hih;clear hih;go_wp2_with (go_at_call 169;refine(HI2.out _ (HB0.out.trans hAI.out) (by omega) (by omega) (by omega) (by omega)).mono ?_;rintro en w143 ⟨rfl,hp⟩;have hFf:=AA (hAI.out.trans hp);obtain⟨c0,c1⟩:=HC.out _ (hAI.out.trans hp);clear hp)
           go_roundw
           case rel=>exact⟨a,k141,L,_,_,by go_num,by go_num,rfl,rfl,rfl,by omega,by omega,by omega,by omega,hFf⟩
           case measure=>simp[intOf];omega
         |false=>
          go_wp2_with (go_at_call 234;refine(Cx HH.out a b x _ (HB0.out.trans hAH.out) (by omega) (by omega) (by omega)).mono ?_;rintro en w140 ⟨k140,rfl,hk1,hk2,hp⟩;have hFg:=AA (hAH.out.trans hp);obtain⟨c0,c1⟩:=HC.out _ (hAH.out.trans hp);clear hp)
          go_roundw
          case rel=>exact⟨k140,b,L,_,_,by go_num,by go_num,rfl,rfl,rfl,by omega,by omega,by omega,by omega,hFg⟩
          case measure=>simp[intOf];omega
        ·have da:decide (0<(a:Int))=false:=by simp;omega
         go_upto_region 22 with(go_at_call 235;refine(B8 HH.out a b x _ (HB0.out.trans xy.out) (by omega) (by omega) (by omega)).mono ?_;rintro en w144 ⟨k144,hBI,rfl,hk1,hk2,hp⟩;have hAJ:=AA (xy.out.trans hp);obtain⟨c0,c1⟩:=HC.out _ (xy.out.trans hp);clear hp)
         by_cases hlr:k144-a<b-k144
         ·have dlr:decide ((k144:Int)-(a:Int)<(b:Int)-(k144:Int))=true:=by simp;omega
          go_wp2_with (go_at_call 169;refine(HIH.out a k144 L _ (HB0.out.trans hAJ.out) (by omega) (by omega) (by omega) (by omega)).mono ?_;rintro en w145 ⟨rfl,hp⟩;have hFh:=AA (hAJ.out.trans hp);obtain⟨c0,c1⟩:=HC.out _ (hAJ.out.trans hp);clear hp)
          go_roundw
          case rel=>exact⟨k144+1,b,L,_,_,by go_num,by go_num,rfl,rfl,rfl,by omega,by omega,by omega,by omega,hFh⟩
          case measure=>simp[intOf];omega
         ·have dlr:decide ((k144:Int)-(a:Int)<(b:Int)-(k144:Int))=false:=by simp;omega
          have hih:=HIH.out (k144+1) b L
          push_cast at hih
          have HI2:=AA hih;clear hih;go_wp2_with (go_at_call 169;refine(HI2.out _ (HB0.out.trans hAJ.out) (by omega) (by omega) (by omega) (by omega)).mono ?_;rintro en w146 ⟨rfl,hp⟩;have hFi:=AA (hAJ.out.trans hp);obtain⟨c0,c1⟩:=HC.out _ (hAJ.out.trans hp);clear hp)
          go_roundw
          case rel=>exact⟨a,k144,L,_,_,by go_num,by go_num,rfl,rfl,rfl,by omega,by omega,by omega,by omega,hFi⟩
          case measure=>simp[intOf];omega
       |true=>
        go_wp2_with fail
        refine(I4 HH.out a b _ (HB0.out.trans xy.out) (by omega) (by omega)).mono ?_;rintro en w138 ⟨k138,rfl,hp⟩;have hAh:=AA (xy.out.trans hp);obtain⟨c0,c1⟩:=HC.out _ (xy.out.trans hp);clear hp;cases k138
        ·go_upto_region 18 with fail
         by_cases ha:0<a
         ·have da:decide (0<(a:Int))=true:=by simp;omega
          go_wp2_with fail
          have hl:=HH.out.less HB0.out hAh.out (a-1) (x) (by omega) (by omega);try push_cast at hl
          rw[show((a-1:Nat):Int)=(a:Int)-1 from by omega]at hl;refine hl.mono ?_;clear hl;rintro en w147 ⟨k147,rfl,hp⟩;have hAK:=AA hp;obtain⟨c0,c1⟩:=HC.out _ hp;clear hp;cases k147 with
          |true=>
           go_upto_region 22 with(go_at_call 235;refine(B8 HH.out a b x _ (HB0.out.trans hAK.out) (by omega) (by omega) (by omega)).mono ?_;rintro en w149 ⟨k149,z149,rfl,hk1,hk2,hp⟩;have hAL:=AA (hAK.out.trans hp);obtain⟨c0,c1⟩:=HC.out _ (hAK.out.trans hp);clear hp)
           by_cases hlr:k149-a<b-k149
           ·have dlr:decide ((k149:Int)-(a:Int)<(b:Int)-(k149:Int))=true:=by simp;omega
            go_wp2_with (go_at_call 169;refine(HIH.out a k149 L _ (HB0.out.trans hAL.out) (by omega) (by omega) (by omega) (by omega)).mono ?_;rintro en w150 ⟨rfl,hp⟩;have hFj:=AA (hAL.out.trans hp);obtain⟨c0,c1⟩:=HC.out _ (hAL.out.trans hp);clear hp)
            go_roundw
            case rel=>exact⟨k149+1,b,L,_,_,by go_num,by go_num,rfl,rfl,rfl,by omega,by omega,by omega,by omega,hFj⟩
            case measure=>simp[intOf];omega
           ·have dlr:decide ((k149:Int)-(a:Int)<(b:Int)-(k149:Int))=false:=by simp;omega
            have hih:=HIH.out (k149+1) b L
            push_cast at hih
            have HI2:=AA hih;clear hih;go_wp2_with (go_at_call 169;refine(HI2.out _ (HB0.out.trans hAL.out) (by omega) (by omega) (by omega) (by omega)).mono ?_;rintro en w151 ⟨rfl,hp⟩;have hFk:=AA (hAL.out.trans hp);obtain⟨c0,c1⟩:=HC.out _ (hAL.out.trans hp);clear hp)
            go_roundw
            case rel=>exact⟨a,k149,L,_,_,by go_num,by go_num,rfl,rfl,rfl,by omega,by omega,by omega,by omega,hFk⟩
            case measure=>simp[intOf];omega
          |false=>
           go_wp2_with (go_at_call 234;refine(Cx HH.out a b x _ (HB0.out.trans hAK.out) (by omega) (by omega) (by omega)).mono ?_;rintro en w148 ⟨k148,rfl,hk1,hk2,hp⟩;have hFl:=AA (hAK.out.trans hp);obtain⟨c0,c1⟩:=HC.out _ (hAK.out.trans hp);clear hp)
           go_roundw
           case rel=>exact⟨k148,b,L,_,_,by go_num,by go_num,rfl,rfl,rfl,by omega,by omega,by omega,by omega,hFl⟩
           case measure=>simp[intOf];omega
         ·have da:decide (0<(a:Int))=false:=by simp;omega
          go_upto_region 22 with(go_at_call 235;refine(B8 HH.out a b x _ (HB0.out.trans hAh.out) (by omega) (by omega) (by omega)).mono ?_;rintro en w152 ⟨k152,z152,rfl,hk1,hk2,hp⟩;have hAM:=AA (hAh.out.trans hp);obtain⟨c0,c1⟩:=HC.out _ (hAh.out.trans hp);clear hp)
          by_cases hlr:k152-a<b-k152
          ·have dlr:decide ((k152:Int)-(a:Int)<(b:Int)-(k152:Int))=true:=by simp;omega
           go_wp2_with (go_at_call 169;refine(HIH.out a k152 L _ (HB0.out.trans hAM.out) (by omega) (by omega) (by omega) (by omega)).mono ?_;rintro en w153 ⟨rfl,hp⟩;have hFm:=AA (hAM.out.trans hp);obtain⟨c0,c1⟩:=HC.out _ (hAM.out.trans hp);clear hp)
           go_roundw
           case rel=>exact⟨k152+1,b,L,_,_,by go_num,by go_num,rfl,rfl,rfl,by omega,by omega,by omega,by omega,hFm⟩
           case measure=>simp[intOf];omega
          ·have dlr:decide ((k152:Int)-(a:Int)<(b:Int)-(k152:Int))=false:=by simp;omega
           have hih:=HIH.out (k152+1) b L
           push_cast at hih
           have HI2:=AA hih;clear hih;go_wp2_with (go_at_call 169;refine(HI2.out _ (HB0.out.trans hAM.out) (by omega) (by omega) (by omega) (by omega)).mono ?_;rintro en w154 ⟨rfl,hp⟩;have hFn:=AA (hAM.out.trans hp);obtain⟨c0,c1⟩:=HC.out _ (hAM.out.trans hp);clear hp)
           go_roundw
           case rel=>exact⟨a,k152,L,_,_,by go_num,by go_num,rfl,rfl,rfl,by omega,by omega,by omega,by omega,hFn⟩
           case measure=>simp[intOf];omega
        ·go_wp2
         first
          |go_end0
          |refine bodyPost_ret (results_none rfl _ _ _) rfl ?_
         exact⟨rfl,xt.out _ hAh.out⟩
      ·have e1:(h==1)=false:=by simp[h1]
       cases wp with
       |false=>
        go_upto_region 18 with fail
        by_cases ha:0<a
        ·have da:decide (0<(a:Int))=true:=by simp;omega
         go_wp2_with fail
         have hl:=HH.out.less HB0.out xy.out (a-1) (x) (by omega) (by omega);try push_cast at hl
         rw[show((a-1:Nat):Int)=(a:Int)-1 from by omega]at hl;refine hl.mono ?_;clear hl;rintro en w155 ⟨k155,rfl,hp⟩;have hAN:=AA hp;obtain⟨c0,c1⟩:=HC.out _ hp;clear hp;cases k155 with
         |true=>
          go_upto_region 22 with(go_at_call 235;refine(B8 HH.out a b x _ (HB0.out.trans hAN.out) (by omega) (by omega) (by omega)).mono ?_;rintro en w157 ⟨k157,z157,rfl,hk1,hk2,hp⟩;have hAO:=AA (hAN.out.trans hp);obtain⟨c0,c1⟩:=HC.out _ (hAN.out.trans hp);clear hp)
          by_cases hlr:k157-a<b-k157
          ·have dlr:decide ((k157:Int)-(a:Int)<(b:Int)-(k157:Int))=true:=by simp;omega
           go_wp2_with (go_at_call 169;refine(HIH.out a k157 L _ (HB0.out.trans hAO.out) (by omega) (by omega) (by omega) (by omega)).mono ?_;rintro en w158 ⟨rfl,hp⟩;have hFo:=AA (hAO.out.trans hp);obtain⟨c0,c1⟩:=HC.out _ (hAO.out.trans hp);clear hp)
           go_roundw
           case rel=>exact⟨k157+1,b,L,_,_,by go_num,by go_num,rfl,rfl,rfl,by omega,by omega,by omega,by omega,hFo⟩
           case measure=>simp[intOf];omega
          ·have dlr:decide ((k157:Int)-(a:Int)<(b:Int)-(k157:Int))=false:=by simp;omega
           have hih:=HIH.out (k157+1) b L
           push_cast at hih
           have HI2:=AA hih;clear hih;go_wp2_with (go_at_call 169;refine(HI2.out _ (HB0.out.trans hAO.out) (by omega) (by omega) (by omega) (by omega)).mono ?_;rintro en w159 ⟨rfl,hp⟩;have hFp:=AA (hAO.out.trans hp);obtain⟨c0,c1⟩:=HC.out _ (hAO.out.trans hp);clear hp)
           go_roundw
           case rel=>exact⟨a,k157,L,_,_,by go_num,by go_num,rfl,rfl,rfl,by omega,by omega,by omega,by omega,hFp⟩
           case measure=>simp[intOf];omega
         |false=>
          go_wp2_with (go_at_call 234;refine(Cx HH.out a b x _ (HB0.out.trans hAN.out) (by omega) (by omega) (by omega)).mono ?_;rintro en w156 ⟨k156,rfl,hk1,hk2,hp⟩;have hFq:=AA (hAN.out.trans hp);obtain⟨c0,c1⟩:=HC.out _ (hAN.out.trans hp);clear hp)
          go_roundw
          case rel=>exact⟨k156,b,L,_,_,by go_num,by go_num,rfl,rfl,rfl,by omega,by omega,by omega,by omega,hFq⟩
          case measure=>simp[intOf];omega
        ·have da:decide (0<(a:Int))=false:=by simp;omega
         go_upto_region 22 with(go_at_call 235;refine(B8 HH.out a b x _ (HB0.out.trans xy.out) (by omega) (by omega) (by omega)).mono ?_;rintro en w160 ⟨k160,z160,rfl,hk1,hk2,hp⟩;have hAP:=AA (xy.out.trans hp);obtain⟨c0,c1⟩:=HC.out _ (xy.out.trans hp);clear hp)
         by_cases hlr:k160-a<b-k160
         ·have dlr:decide ((k160:Int)-(a:Int)<(b:Int)-(k160:Int))=true:=by simp;omega
          go_wp2_with (go_at_call 169;refine(HIH.out a k160 L _ (HB0.out.trans hAP.out) (by omega) (by omega) (by omega) (by omega)).mono ?_;rintro en w161 ⟨rfl,hp⟩;have hFr:=AA (hAP.out.trans hp);obtain⟨c0,c1⟩:=HC.out _ (hAP.out.trans hp);clear hp)
          go_roundw
          case rel=>exact⟨k160+1,b,L,_,_,by go_num,by go_num,rfl,rfl,rfl,by omega,by omega,by omega,by omega,hFr⟩
          case measure=>simp[intOf];omega
         ·have dlr:decide ((k160:Int)-(a:Int)<(b:Int)-(k160:Int))=false:=by simp;omega
          have hih:=HIH.out (k160+1) b L
          push_cast at hih
          have HI2:=AA hih;clear hih;go_wp2_with (go_at_call 169;refine(HI2.out _ (HB0.out.trans hAP.out) (by omega) (by omega) (by omega) (by omega)).mono ?_;rintro en w162 ⟨rfl,hp⟩;have hFs:=AA (hAP.out.trans hp);obtain⟨c0,c1⟩:=HC.out _ (hAP.out.trans hp);clear hp)
          go_roundw
          case rel=>exact⟨a,k160,L,_,_,by go_num,by go_num,rfl,rfl,rfl,by omega,by omega,by omega,by omega,hFs⟩
          case measure=>simp[intOf];omega
       |true=>
        go_upto_region 18 with fail
        by_cases ha:0<a
        ·have da:decide (0<(a:Int))=true:=by simp;omega
         go_wp2_with fail
         have hl:=HH.out.less HB0.out xy.out (a-1) (x) (by omega) (by omega);try push_cast at hl
         rw[show((a-1:Nat):Int)=(a:Int)-1 from by omega]at hl;refine hl.mono ?_;clear hl;rintro en w163 ⟨k163,rfl,hp⟩;have hAQ:=AA hp;obtain⟨c0,c1⟩:=HC.out _ hp;clear hp;cases k163 with
         |true=>
          go_upto_region 22 with(go_at_call 235;refine(B8 HH.out a b x _ (HB0.out.trans hAQ.out) (by omega) (by omega) (by omega)).mono ?_;rintro en w165 ⟨k165,z165,rfl,hk1,hk2,hp⟩;have hAR:=AA (hAQ.out.trans hp);obtain⟨c0,c1⟩:=HC.out _ (hAQ.out.trans hp);clear hp)
          by_cases hlr:k165-a<b-k165
          ·have dlr:decide ((k165:Int)-(a:Int)<(b:Int)-(k165:Int))=true:=by simp;omega
           go_wp2_with (go_at_call 169;refine(HIH.out a k165 L _ (HB0.out.trans hAR.out) (by omega) (by omega) (by omega) (by omega)).mono ?_;rintro en w166 ⟨rfl,hp⟩;have hFt:=AA (hAR.out.trans hp);obtain⟨c0,c1⟩:=HC.out _ (hAR.out.trans hp);clear hp)
           go_roundw
           case rel=>exact⟨k165+1,b,L,_,_,by go_num,by go_num,rfl,rfl,rfl,by omega,by omega,by omega,by omega,hFt⟩
           case measure=>simp[intOf];omega
          ·have dlr:decide ((k165:Int)-(a:Int)<(b:Int)-(k165:Int))=false:=by simp;omega
           have hih:=HIH.out (k165+1) b L
           push_cast at hih
           have HI2:=AA hih;clear hih;go_wp2_with (go_at_call 169;refine(HI2.out _ (HB0.out.trans hAR.out) (by omega) (by omega) (by omega) (by omega)).mono ?_;rintro en w167 ⟨rfl,hp⟩;have hFu:=AA (hAR.out.trans hp);obtain⟨c0,c1⟩:=HC.out _ (hAR.out.trans hp);clear hp)
           go_roundw
           case rel=>exact⟨a,k165,L,_,_,by go_num,by go_num,rfl,rfl,rfl,by omega,by omega,by omega,by omega,hFu⟩
           case measure=>simp[intOf];omega
         |false=>
          go_wp2_with (go_at_call 234;refine(Cx HH.out a b x _ (HB0.out.trans hAQ.out) (by omega) (by omega) (by omega)).mono ?_;rintro en w164 ⟨k164,rfl,hk1,hk2,hp⟩;have hFv:=AA (hAQ.out.trans hp);obtain⟨c0,c1⟩:=HC.out _ (hAQ.out.trans hp);clear hp)
          go_roundw
          case rel=>exact⟨k164,b,L,_,_,by go_num,by go_num,rfl,rfl,rfl,by omega,by omega,by omega,by omega,hFv⟩
          case measure=>simp[intOf];omega
        ·have da:decide (0<(a:Int))=false:=by simp;omega
         go_upto_region 22 with(go_at_call 235;refine(B8 HH.out a b x _ (HB0.out.trans xy.out) (by omega) (by omega) (by omega)).mono ?_;rintro en w168 ⟨k168,z168,rfl,hk1,hk2,hp⟩;have hAS:=AA (xy.out.trans hp);obtain⟨c0,c1⟩:=HC.out _ (xy.out.trans hp);clear hp)
         by_cases hlr:k168-a<b-k168
         ·have dlr:decide ((k168:Int)-(a:Int)<(b:Int)-(k168:Int))=true:=by simp;omega
          go_wp2_with (go_at_call 169;refine(HIH.out a k168 L _ (HB0.out.trans hAS.out) (by omega) (by omega) (by omega) (by omega)).mono ?_;rintro en w169 ⟨rfl,hp⟩;have hFw:=AA (hAS.out.trans hp);obtain⟨c0,c1⟩:=HC.out _ (hAS.out.trans hp);clear hp)
          go_roundw
          case rel=>exact⟨k168+1,b,L,_,_,by go_num,by go_num,rfl,rfl,rfl,by omega,by omega,by omega,by omega,hFw⟩
          case measure=>simp[intOf];omega
         ·have dlr:decide ((k168:Int)-(a:Int)<(b:Int)-(k168:Int))=false:=by simp;omega
          have hih:=HIH.out (k168+1) b L
          push_cast at hih
          have HI2:=AA hih;clear hih;go_wp2_with (go_at_call 169;refine(HI2.out _ (HB0.out.trans hAS.out) (by omega) (by omega) (by omega) (by omega)).mono ?_;rintro en w170 ⟨rfl,hp⟩;have hFx:=AA (hAS.out.trans hp);obtain⟨c0,c1⟩:=HC.out _ (hAS.out.trans hp);clear hp)
          go_roundw
          case rel=>exact⟨a,k168,L,_,_,by go_num,by go_num,rfl,rfl,rfl,by omega,by omega,by omega,by omega,hFx⟩
          case measure=>simp[intOf];omega
end
end
section
open Go.RowKit Go.Shelf
section
variable {F f:Nat}{sb lb:Array Value}
theorem Qs(lf sf:Value)(w:World):Calls prog 179 #[.agg #[lf,sf],.int .i64 0,.int .i64 0] w fun e w'=>e= .returned (.tuple #[])/\Wx w w':=by
 go_enter func179,ntmps179;go_wp2
 go_loopw [6] (fun iv wr=>iv= .int .i64 1/\Wx w wr) (fun _ _=>0)
 case atStart=>exact⟨by go_num,(AC _ _).alloc (AB _) _⟩
 case round=>
  obtain⟨rfl,hb⟩:=hrel;go_wp2;go_end0;exact⟨rfl,hb⟩
theorem MC(lf sf:Value)(L:Int)(w:World):Calls prog 169 #[.agg #[lf,sf],.int .i64 0,.int .i64 0,.int .i64 L] w fun e w'=>e= .returned (.tuple #[])/\Wx w w':=by
 have HI:=AA (fun W=>Qs lf sf W);go_enter func169,ntmps169;go_upto_region 3 with fail
 go_loopw [1,2,3,8,9] (fun av bv lv xv yv wr=>av= .int .i64 0/\bv= .int .i64 0/\lv= .int .i64 L/\xv= .bool true/\yv= .bool true/\wr=w.alloc (.cells #[lf,sf] 190)) (fun _ _ _ _ _ _=>0)
 case atStart=>exact⟨rfl,rfl,rfl,rfl,rfl,rfl⟩
 case round=>
  obtain⟨rfl,rfl,rfl,rfl,rfl,hwr⟩:=hrel;subst hwr;go_wp2_with (go_at_call 179;refine(HI.out _).mono ?_;rintro en w2 ⟨rfl,hb⟩)
  refine bodyPost_ret (results_none rfl _ _ _) rfl ?_;exact⟨rfl,((AC _ _).alloc (AB _) _).trans (hb.mono (by simp))⟩
end
theorem G8:∀f x,Lib.bitLenAux f x<=f
 |0,x=>by simp[Lib.bitLenAux]
 |f+1,x=>by
  have:=G8 f (x/2);unfold Lib.bitLenAux;split <;> omega
theorem GJ(x:Nat):Lib.bitLen x<=64:=G8 64 x
def Fl(n:Nat):Nat:=if n=0 then 170 else if n=1 then 171 else 178
structure SlT (t e:TypeId)(m:Nat):Prop where
 info:∃i,prog.info? t=some i/\i.desc= .slice e
 packed:prog.packed t=false
 elem:∃ie,prog.info? e=some ie/\ie.size=m/\∀n,2<=n->Lib.swapperK n ie 25=9
 kind:∀w,(Extern.Rtype.kind e).run prog w= .ok 25 w
 agg:∀w,(isAgg e).run prog w= .ok true w
theorem MD{α:Type}{enc:α->List Value}{m:Nat}{e t:TypeId}(S:SlT t e m)(hl:∀x,(enc x).length=m)(h1:∀x,∀v∈enc x,v.oneCell'=true):Lit enc m e 178 false:=by
 obtain⟨ie,h2,h3,_⟩:=S.elem;exact⟨fun args W=>run_callFunc_extern func178 (by kernel_rfl) (by kernel_rfl) (by kernel_rfl) (e:=Extern.ReflectliteSwapper.swap false) (by kernel_rfl) args W,⟨ie,h2,h3⟩,S.agg,hl,h1⟩
theorem GK {ie : TypeInfo} (h4 : ∀ n,2≤n→Lib.swapperK n ie 25 = 9) (n : Nat) : prog.funcs.findIdx? (·.name == "internal/reflectlite" ++ ".Swapper$" ++ toString (Lib.swapperK n ie 25)) = some (Fl n) := by
 rcases Nat.lt_or_ge n 2 with h|h
 ·rcases Nat.eq_zero_or_pos n with h0|h0
  ·subst h0;kernel_rfl
  ·obtain rfl:n=1:=by omega
   kernel_rfl
 ·rw[h4 n h];unfold Fl;rw[if_neg (by omega),if_neg (by omega)]
  kernel_rfl
theorem IU{α:Type}[Inhabited α]{F:Nat}{lb:Array Value}{lt:α->α->Bool}{t e:TypeId}{m:Nat}(S:SlT t e m)(c:Bc α)(hl:∀x,(c.enc x).length=m)(hm0:0<m)(h1:∀x,∀v∈c.enc x,v.oneCell'=true)(eg:∀args w,(callFunc F args).run prog w= .ok (.enter F args) w)(l:List α)(g n cap:Nat)(w:World)(hle:Fi c e w g l lt F lb)(xZ:Blk w g e (l.flatMap c.enc++c.tail).toArray)(hn:l.length=n)(hsm:n<=1000000):Calls prog 116 #[.iface t (.slice (some ⟨g,0,none⟩) n cap),.func (.func F) #[] lb] w fun e' w'=>e'= .returned (.tuple #[])/\Az c e g l w w':=by
 obtain⟨i,hi,hd⟩:=S.info;obtain⟨ie,h2,h3,h4⟩:=S.elem;have xP:Az c e g l w (sliceWorld prog I0 t (some ⟨g,0,none⟩) n cap w):=⟨l,((Bv.self xZ).alloc _).alloc _,List.Perm.refl _⟩;have H9:=MD (enc:=c.enc) S hl h1;refine Any.sort_Slice_of_pdq Gs t e i ie hi hd S.packed h2 25 S.kind (some ⟨g,0,none⟩) n cap (by omega) (Fl n) (GK h4 n) (.func F) #[] lb w (fun w'=>Az c e g l w w') ?_;by_cases h:2<=n
 ·have e1:Fl n=178:=by unfold Fl;rw[if_neg (by omega),if_neg (by omega)]
  have e2:sliceBound prog e ie 25 (some ⟨g,0,none⟩) n cap=#[.slice (some ⟨g,0,none⟩) n cap,typeHandle prog e]:=by unfold sliceBound;rw[h4 n h];rfl
  rw[e1,e2];have HS:Srt c e w g n 178 F #[.slice (some ⟨g,0,none⟩) n cap,typeHandle prog e] lb lt l:=⟨eg,hle,I1 n cap H9 e w,hn,hsm⟩;exact(JC HS (Pd n cap H9 hm0 e w F lb l hn hsm) n 0 n (Lib.bitLen n) _ xP (Nat.zero_le _) (AB _) (by omega) (by have:=GJ n;omega)).mono fun e' w' h=>⟨h.1,xP.trans h.2⟩
 ·have HS:Srt c e w g n (Fl n) F (sliceBound prog e ie 25 (some ⟨g,0,none⟩) n cap) lb lt l:=⟨eg,hle,fun _ _ _ _ _ _ _ _ h'=>absurd h' h,hn,hsm⟩;exact(JC HS (fun a b V _ hab hb=>absurd hb (by omega)) n 0 n (Lib.bitLen n) _ xP (Nat.zero_le _) (AB _) (by omega) (by have:=GJ n;omega)).mono fun e' w' h=>⟨h.1,xP.trans h.2⟩
theorem IV{F:Nat}{lb:Array Value}{t e:TypeId}{m:Nat}(S:SlT t e m)(cap:Nat)(w:World):Calls prog 116 #[.iface t (.slice none 0 cap),.func (.func F) #[] lb] w fun e' w'=>e'= .returned (.tuple #[])/\Wx w w':=by
 obtain⟨i,hi,hd⟩:=S.info;obtain⟨ie,h2,h3,h4⟩:=S.elem;refine Any.sort_Slice_of_pdq Gs t e i ie hi hd S.packed h2 25 S.kind none 0 cap (by omega) (Fl 0) (GK h4 0) (.func F) #[] lb w (fun w'=>Wx w w') ?_;refine(MC _ _ _ _).mono fun e' w' h=>⟨h.1,?_⟩
 have hb:Wx w (sliceWorld prog I0 t none 0 cap w):=((AC _ _).alloc (AB _) _).alloc (by simp) _;exact hb.trans (h.2.mono hb.size)
end
section
open Go.RowKit
attribute [local go_sem ↓] Go.wp_at_zero Go.wp_at_succ Aq Au Av Aw Ij
attribute [local go_sem] BE BL BM BN LG AR AX AU
theorem Bv.oc{T:List Value}{w0 W:World}{g i:Nat}{l:List Oc}{x:Oc}(h:Bv ⟨occ,T⟩ 142 w0 g l W)(hx:l[i]? =some x):AK W g (i*11) 11=some x.cells:=by
 refine By (fun j u hu=>?_) rfl;have:=EP (c:=⟨occ,T⟩) (m:=11) (fun _=>rfl) h.blk i j x u hx (by simpa using hu);rwa[Nat.zero_add]at this
theorem NH(T:List Value)(B g n c:Nat)(l0:List Oc)(w0:World)(hB:Blk w0 B 103 #[.slice (some ⟨g,0,none⟩) n c])(hne:B≠g)(hn:l0.length=n):Fi ⟨occ,T⟩ 142 w0 g l0 My 117 #[.pointer (some ⟨B,0,none⟩)]:=by
 intro W l i j x y hr hp hx hy;have hi:i<n:=by rw[<-hn,<-hp.length_eq];exact(AF.1 hx).1
 have hj:j<n:=by rw[<-hn,<-hp.length_eq];exact(AF.1 hy).1
 have hc0:W.cell? ⟨B,0,none⟩=some (.slice (some ⟨g,0,none⟩) n c):=(hr.box hB hne).cell 0;have xe:Hid (∀V,Wx W V->V.cell? ⟨B,0,none⟩=some (.slice (some ⟨g,0,none⟩) n c)/\AK V g (i*11) 11=some x.cells/\AK V g (j*11) 11=some y.cells):=
  fun V hV=>⟨(hV.cell (p:=⟨B,0,none⟩) (hr.box hB hne).lt).trans hc0,BC (hr.oc hx) hV hr.blk.lt,BC (hr.oc hy) hV hr.blk.lt⟩
 have HL:Hid (∀V,Wx W V->Calls prog 118 #[x.val,y.val] V (An V (My x y))):=
  fun V hV=>OL x y V
 obtain⟨r,hrr⟩:=Wr (My x y);rw[<-hrr]at HL ⊢;clear hrr hc0 hr hp hx hy hB hn;have hbw:Wx W W:=AC _ _;show Calls prog 117 #[.int .i64 (i:Int),.int .i64 (j:Int),.pointer (some ⟨B,0,none⟩)] W _;go_enter func117,ntmps117;go_upto_region 1 with fail
 refine rgD (fun w'=>w'.cell? ⟨B,0,none⟩=some (.slice (some ⟨g,0,none⟩) n c)/\AK w' g (i*11) 11=some x.cells/\AK w' g (j*11) 11=some y.cells) (xe.out _ hbw.drew) fun _=>?_
 iterate 8 (refine tkA ?_;go_frame)
 refine rd1 8 fun K hK=>?_
 go_simp;refine(HL.out _ hbw.drew).mono ?_;rintro en w2 ⟨rfl,hb2⟩;have xL:=hbw.drew.trans (hb2.mono hbw.size);go_wp2_with fail
 refine hK.out _ _ (xe.out _ xL) (fun _=>?_);clear hK K;try go_frame
 refine tkD 5 9 ?_;go_frame;refine dnD ?_;go_wp2;go_ret;exact⟨rfl,xL⟩
noncomputable def ocT:TypeInfo:=(prog.info? 103).get (by kernel_rfl)
noncomputable def ocE:TypeInfo:=(prog.info? 142).get (by kernel_rfl)
theorem Vm(n:Nat)(h:2<=n):Lib.swapperK n ocE 25=9:=by
 have a:ocE.hasPointers=false:=by kernel_rfl
 have b:ocE.bytes=32:=by kernel_rfl
 have c0:(n==0)=false:=by simp;omega
 have c1:(n==1)=false:=by simp;omega
 unfold Lib.swapperK;rw[a,b,c0,c1];rfl
theorem Ud:prog.info? 103=some ocT:=by kernel_rfl
theorem Ue:prog.info? 142=some ocE:=by kernel_rfl
theorem Qt:ocT.desc= .slice 142:=by kernel_rfl
theorem Qu:ocE.size=11:=by kernel_rfl
theorem Qv:SlT 103 142 11:=
 ⟨⟨ocT,Ud,Qt⟩,by kernel_rfl,⟨ocE,Ue,Qu,Vm⟩,fun _=>by kernel_rfl,fun _=>by kernel_rfl⟩
theorem NI(args:Array Value)(W:World):(callFunc 117 args).run prog W= .ok (.enter 117 args) W:=enters_of func117 (by kernel_rfl) rfl args W
end
end Go.Proofs.YtadllffeoibelaaGreat
