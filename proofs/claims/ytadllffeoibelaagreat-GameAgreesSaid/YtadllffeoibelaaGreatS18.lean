/-
  What these parts of the proof come to, functions walked and plain laws: Pd6. No condition.
-/
import Derived.Test.YtadllffeoibelaaGreatS16
import Derived.Test.YtadllffeoibelaaGreatS17
import Derived.Test.YtadllffeoibelaaGreatS9
namespace Go.Proofs.YtadllffeoibelaaGreat
set_option maxRecDepth 100000
set_option maxHeartbeats 32000000
set_option linter.all false
section
open Go.RowKit
section
variable {α:Type}{c:Be α}{t:TypeId}{w0:World}{g n f F:Nat}{sb lb:Array Value}{lt:α→α→Bool}{l0:List α}
theorem BC.gltW{A B:World}(h:BC c t g l0 A B):g<B.heap.size:=by
 obtain⟨l,h1,_⟩:=h;exact h1.blk.lt
theorem IN(H:Srt c t w0 g n f F sb lb lt l0)(HB:Sc c t w0 g n f F sb lb l0):∀(m A Z L0:Nat) (w:World),BC c t g l0 w0 w→A≤Z→Z≤n→Z-A≤m→L0≤1000000→Calls Tryz.prog 169 #[.agg #[.func (.func F) #[] lb,.func (.func f) #[] sb],.int .i64 (A:Int),.int .i64 (Z:Int),.int .i64 (L0:Int)] w fun e w'=>e= .returned (.tuple #[])∧BC c t g l0 w w':=by
 intro m
 induction m using Nat.strongRecOn with
 |_ m ih=>
 intro A Z L0 w hw hAZ hZn hZm hL0;have HIH:Hid (∀(a b L:Nat) (w:World),BC c t g l0 w0 w→a≤b→b≤n→b-a<m→L≤1000000→Calls Tryz.prog 169 #[.agg #[.func (.func F) #[] lb,.func (.func f) #[] sb],.int .i64 (a:Int),.int .i64 (b:Int),.int .i64 (L:Int)] w fun e w'=>e= .returned (.tuple #[])∧BC c t g l0 w w'):=
  fun a b L w h1 h2 h3 h4 h5=>ih (b-a) h4 a b L w h1 h2 h3 (AB _) h5
 have HBr:=AA HB;clear ih HB;have HH:=AA H;have hgw:g<w.heap.size:=hw.glt;obtain⟨B,hB⟩:∃B,B=w.alloc (.cells #[.func (.func F) #[] lb,.func (.func f) #[] sb] 190):=⟨_,rfl⟩;have h0B:BC c t g l0 w0 B:=by rw[hB];exact hw.alloc _
 have hBB:BC c t g l0 B B:=h0B.self;have hBx:Blk B w.heap.size 190 #[.func (.func F) #[] lb,.func (.func f) #[] sb]:=by rw[hB];exact Blk.new _ _ _
 have HOff:Hid (∀V,BC c t g l0 B V→BC c t g l0 w V):=fun V h=>by rw[hB]at h;exact h.off
 have HB0:=AA h0B;have HC:Hid (∀V,BC c t g l0 B V→V.cell? ⟨w.heap.size,0,none⟩=some (.func (.func F) #[] lb)∧V.cell? ⟨w.heap.size,1,none⟩=some (.func (.func f) #[] sb)):=fun V h=>⟨(h.box hBx (by omega)).cell 0,(h.box hBx (by omega)).cell 1⟩
 have eg:=H.eg;have hn6:=H.small;have HW:=AA hB;have HBB:=AA hBB;clear hw hB h0B hBB hBx H;go_enter Tryz.func169,Tryz.ntmps169;go_upto_region 1 with fail
 simp only[←HW.out];go_upto_region 3 with fail
 go_loopw [1,2,3,8,9] (fun av bv lv xv yv wr=>∃(a b L:Nat) (wb wp:Bool),av= .int .i64 (a:Int)∧bv= .int .i64 (b:Int)∧lv= .int .i64 (L:Int)∧xv= .bool wb∧yv= .bool wp∧a≤b∧b≤n∧b-a≤m∧L≤1000000∧Hid (BC c t g l0 B wr)) (fun av bv _ _ _ _=>(intOf bv).toNat-(intOf av).toNat)
 case atStart=>exact⟨A,Z,L0,true,true,rfl,rfl,rfl,rfl,rfl,hAZ,hZn,hZm,hL0,HBB⟩
 case round=>
  clear hAZ hZn hZm hL0;obtain⟨a,b,L,wb,wp,rfl,rfl,rfl,rfl,rfl,hab,hbn,hbm,hL,HP⟩:=hrel;obtain⟨c0,c1⟩:=HC.out _ HP.out;by_cases h12:b≤a+12
  ·have d12:decide ((b:Int)-(a:Int)≤12)=true:=by simp;omega
   go_wp2_with (go_at_call 179;refine(LK HH.out a b _ (HB0.out.trans HP.out) (by omega) (by omega)).mono ?_;rintro en w2 ⟨rfl,hp⟩;have HP2:=AA (HP.out.trans hp);obtain⟨c0,c1⟩:=HC.out _ (HP.out.trans hp);clear hp)
   first
    |go_end0
    |refine bodyPost_ret (results_none rfl _ _ _) rfl ?_
   exact⟨rfl,HOff.out _ HP2.out⟩
  ·have d12:decide ((b:Int)-(a:Int)≤12)=false:=by simp;omega
   rcases Nat.eq_zero_or_pos L with hL0|hL0
   ·subst hL0;go_wp2_with (go_at_call 229;refine(KR HH.out a b _ (HB0.out.trans HP.out) (by omega) (by omega)).mono ?_;rintro en w2 ⟨rfl,hp⟩;have HP2:=AA (HP.out.trans hp);obtain⟨c0,c1⟩:=HC.out _ (HP.out.trans hp);clear hp)
    first
     |go_end0
     |refine bodyPost_ret (results_none rfl _ _ _) rfl ?_
    exact⟨rfl,HOff.out _ HP2.out⟩
   ·have e0:((L:Int)==0)=false:=by simp;omega
    cases wb with
    |false=>
     obtain⟨L,rfl⟩:∃L',L=L'+1:=⟨L-1,by omega⟩;go_upto_region 10 with(go_at_call 230;refine(HBr.out a b _ (HB0.out.trans HP.out) (by omega) (by omega)).mono ?_;rintro en w2 ⟨rfl,hp⟩;have HP2:=AA (HP.out.trans hp);obtain⟨c0,c1⟩:=HC.out _ (HP.out.trans hp);clear hp)
     go_upto_region 12 with(go_at_call 231;refine(Jw HH.out a b _ (HB0.out.trans HP2.out) (HP2.out.gltW) (by omega) (by omega)).mono ?_;rintro en w101 ⟨x,h,rfl,hx,hp⟩;have HP101:=AA (HP2.out.trans hp);obtain⟨c0,c1⟩:=HC.out _ (HP2.out.trans hp);clear hp)
     by_cases h2:h=2
     ·subst h2;obtain⟨y,hy⟩:∃y,y=(b-1)-(x-a):=⟨_,rfl⟩;have hyI:(b:Int)-1-((x:Int)-(a:Int))=(y:Int):=by omega
      have hyb:a≤y∧y<b:=by omega
      clear hy;go_upto_region 14 with(go_at_call 232;refine(EV HH.out a b _ (HB0.out.trans HP101.out) (by omega) (by omega)).mono ?_;rintro en w102 ⟨rfl,hp⟩;have HP102:=AA (HP101.out.trans hp);obtain⟨c0,c1⟩:=HC.out _ (HP101.out.trans hp);clear hp)
      go_upto_region 18 with fail
      by_cases ha:0<a
      ·have da:decide (0<(a:Int))=true:=by simp;omega
       go_wp2_with fail
       have hl:=HH.out.less HB0.out HP102.out (a-1) (y) (by omega) (by omega);try push_cast at hl
       rw[show((a-1:Nat):Int)=(a:Int)-1 from by omega]at hl;refine hl.mono ?_;clear hl;rintro en w103 ⟨k103,rfl,hp⟩;have HP103:=AA hp;obtain⟨c0,c1⟩:=HC.out _ hp;clear hp;cases k103 with
       |true=>
        go_upto_region 22 with(go_at_call 235;refine(B4 HH.out a b y _ (HB0.out.trans HP103.out) (by omega) (by omega) (by omega)).mono ?_;rintro en w105 ⟨k105,z105,rfl,hk1,hk2,hp⟩;have HP105:=AA (HP103.out.trans hp);obtain⟨c0,c1⟩:=HC.out _ (HP103.out.trans hp);clear hp)
        by_cases hlr:k105-a<b-k105
        ·have dlr:decide ((k105:Int)-(a:Int)<(b:Int)-(k105:Int))=true:=by simp;omega
         go_wp2_with (go_at_call 169;refine(HIH.out a k105 L _ (HB0.out.trans HP105.out) (by omega) (by omega) (by omega) (by omega)).mono ?_;rintro en w106 ⟨rfl,hp⟩;have HP106:=AA (HP105.out.trans hp);obtain⟨c0,c1⟩:=HC.out _ (HP105.out.trans hp);clear hp)
         go_roundw
         case rel=>exact⟨k105+1,b,L,_,_,by go_num,by go_num,rfl,rfl,rfl,by omega,by omega,by omega,by omega,HP106⟩
         case measure=>simp[intOf];omega
        ·have dlr:decide ((k105:Int)-(a:Int)<(b:Int)-(k105:Int))=false:=by simp;omega
         have hih:=HIH.out (k105+1) b L
         push_cast at hih
         have HI2:=AA hih;clear hih;go_wp2_with (go_at_call 169;refine(HI2.out _ (HB0.out.trans HP105.out) (by omega) (by omega) (by omega) (by omega)).mono ?_;rintro en w107 ⟨rfl,hp⟩;have HP107:=AA (HP105.out.trans hp);obtain⟨c0,c1⟩:=HC.out _ (HP105.out.trans hp);clear hp)
         go_roundw
         case rel=>exact⟨a,k105,L,_,_,by go_num,by go_num,rfl,rfl,rfl,by omega,by omega,by omega,by omega,HP107⟩
         case measure=>simp[intOf];omega
       |false=>
        go_wp2_with (go_at_call 234;refine(Ce HH.out a b y _ (HB0.out.trans HP103.out) (by omega) (by omega) (by omega)).mono ?_;rintro en w104 ⟨k104,rfl,hk1,hk2,hp⟩;have HP104:=AA (HP103.out.trans hp);obtain⟨c0,c1⟩:=HC.out _ (HP103.out.trans hp);clear hp)
        go_roundw
        case rel=>exact⟨k104,b,L,_,_,by go_num,by go_num,rfl,rfl,rfl,by omega,by omega,by omega,by omega,HP104⟩
        case measure=>simp[intOf];omega
      ·have da:decide (0<(a:Int))=false:=by simp;omega
       go_upto_region 22 with(go_at_call 235;refine(B4 HH.out a b y _ (HB0.out.trans HP102.out) (by omega) (by omega) (by omega)).mono ?_;rintro en w108 ⟨k108,z108,rfl,hk1,hk2,hp⟩;have HP108:=AA (HP102.out.trans hp);obtain⟨c0,c1⟩:=HC.out _ (HP102.out.trans hp);clear hp)
       by_cases hlr:k108-a<b-k108
       ·have dlr:decide ((k108:Int)-(a:Int)<(b:Int)-(k108:Int))=true:=by simp;omega
        go_wp2_with (go_at_call 169;refine(HIH.out a k108 L _ (HB0.out.trans HP108.out) (by omega) (by omega) (by omega) (by omega)).mono ?_;rintro en w109 ⟨rfl,hp⟩;have HP109:=AA (HP108.out.trans hp);obtain⟨c0,c1⟩:=HC.out _ (HP108.out.trans hp);clear hp)
        go_roundw
        case rel=>exact⟨k108+1,b,L,_,_,by go_num,by go_num,rfl,rfl,rfl,by omega,by omega,by omega,by omega,HP109⟩
        case measure=>simp[intOf];omega
       ·have dlr:decide ((k108:Int)-(a:Int)<(b:Int)-(k108:Int))=false:=by simp;omega
        have hih:=HIH.out (k108+1) b L
        push_cast at hih
        have HI2:=AA hih;clear hih;go_wp2_with (go_at_call 169;refine(HI2.out _ (HB0.out.trans HP108.out) (by omega) (by omega) (by omega) (by omega)).mono ?_;rintro en w110 ⟨rfl,hp⟩;have HP110:=AA (HP108.out.trans hp);obtain⟨c0,c1⟩:=HC.out _ (HP108.out.trans hp);clear hp)
        go_roundw
        case rel=>exact⟨a,k108,L,_,_,by go_num,by go_num,rfl,rfl,rfl,by omega,by omega,by omega,by omega,HP110⟩
        case measure=>simp[intOf];omega
     ·have e2:(h==2)=false:=by simp[h2]
      go_upto_region 18 with fail
      by_cases ha:0<a
      ·have da:decide (0<(a:Int))=true:=by simp;omega
       go_wp2_with fail
       have hl:=HH.out.less HB0.out HP101.out (a-1) (x) (by omega) (by omega);try push_cast at hl
       rw[show((a-1:Nat):Int)=(a:Int)-1 from by omega]at hl;refine hl.mono ?_;clear hl;rintro en w111 ⟨k111,rfl,hp⟩;have HP111:=AA hp;obtain⟨c0,c1⟩:=HC.out _ hp;clear hp;cases k111 with
       |true=>
        go_upto_region 22 with(go_at_call 235;refine(B4 HH.out a b x _ (HB0.out.trans HP111.out) (by omega) (by omega) (by omega)).mono ?_;rintro en w113 ⟨k113,z113,rfl,hk1,hk2,hp⟩;have HP113:=AA (HP111.out.trans hp);obtain⟨c0,c1⟩:=HC.out _ (HP111.out.trans hp);clear hp)
        by_cases hlr:k113-a<b-k113
        ·have dlr:decide ((k113:Int)-(a:Int)<(b:Int)-(k113:Int))=true:=by simp;omega
         go_wp2_with (go_at_call 169;refine(HIH.out a k113 L _ (HB0.out.trans HP113.out) (by omega) (by omega) (by omega) (by omega)).mono ?_;rintro en w114 ⟨rfl,hp⟩;have HP114:=AA (HP113.out.trans hp);obtain⟨c0,c1⟩:=HC.out _ (HP113.out.trans hp);clear hp)
         go_roundw
         case rel=>exact⟨k113+1,b,L,_,_,by go_num,by go_num,rfl,rfl,rfl,by omega,by omega,by omega,by omega,HP114⟩
         case measure=>simp[intOf];omega
        ·have dlr:decide ((k113:Int)-(a:Int)<(b:Int)-(k113:Int))=false:=by simp;omega
         have hih:=HIH.out (k113+1) b L
         push_cast at hih
         have HI2:=AA hih;clear hih;go_wp2_with (go_at_call 169;refine(HI2.out _ (HB0.out.trans HP113.out) (by omega) (by omega) (by omega) (by omega)).mono ?_;rintro en w115 ⟨rfl,hp⟩;have HP115:=AA (HP113.out.trans hp);obtain⟨c0,c1⟩:=HC.out _ (HP113.out.trans hp);clear hp)
         go_roundw
         case rel=>exact⟨a,k113,L,_,_,by go_num,by go_num,rfl,rfl,rfl,by omega,by omega,by omega,by omega,HP115⟩
         case measure=>simp[intOf];omega
       |false=>
        go_wp2_with (go_at_call 234;refine(Ce HH.out a b x _ (HB0.out.trans HP111.out) (by omega) (by omega) (by omega)).mono ?_;rintro en w112 ⟨k112,rfl,hk1,hk2,hp⟩;have HP112:=AA (HP111.out.trans hp);obtain⟨c0,c1⟩:=HC.out _ (HP111.out.trans hp);clear hp)
        go_roundw
        case rel=>exact⟨k112,b,L,_,_,by go_num,by go_num,rfl,rfl,rfl,by omega,by omega,by omega,by omega,HP112⟩
        case measure=>simp[intOf];omega
      ·have da:decide (0<(a:Int))=false:=by simp;omega
       go_upto_region 22 with(go_at_call 235;refine(B4 HH.out a b x _ (HB0.out.trans HP101.out) (by omega) (by omega) (by omega)).mono ?_;rintro en w116 ⟨k116,z116,rfl,hk1,hk2,hp⟩;have HP116:=AA (HP101.out.trans hp);obtain⟨c0,c1⟩:=HC.out _ (HP101.out.trans hp);clear hp)
       by_cases hlr:k116-a<b-k116
       ·have dlr:decide ((k116:Int)-(a:Int)<(b:Int)-(k116:Int))=true:=by simp;omega
        go_wp2_with (go_at_call 169;refine(HIH.out a k116 L _ (HB0.out.trans HP116.out) (by omega) (by omega) (by omega) (by omega)).mono ?_;rintro en w117 ⟨rfl,hp⟩;have HP117:=AA (HP116.out.trans hp);obtain⟨c0,c1⟩:=HC.out _ (HP116.out.trans hp);clear hp)
        go_roundw
        case rel=>exact⟨k116+1,b,L,_,_,by go_num,by go_num,rfl,rfl,rfl,by omega,by omega,by omega,by omega,HP117⟩
        case measure=>simp[intOf];omega
       ·have dlr:decide ((k116:Int)-(a:Int)<(b:Int)-(k116:Int))=false:=by simp;omega
        have hih:=HIH.out (k116+1) b L
        push_cast at hih
        have HI2:=AA hih;clear hih;go_wp2_with (go_at_call 169;refine(HI2.out _ (HB0.out.trans HP116.out) (by omega) (by omega) (by omega) (by omega)).mono ?_;rintro en w118 ⟨rfl,hp⟩;have HP118:=AA (HP116.out.trans hp);obtain⟨c0,c1⟩:=HC.out _ (HP116.out.trans hp);clear hp)
        go_roundw
        case rel=>exact⟨a,k116,L,_,_,by go_num,by go_num,rfl,rfl,rfl,by omega,by omega,by omega,by omega,HP118⟩
        case measure=>simp[intOf];omega
    |true=>
     go_upto_region 12 with(go_at_call 231;refine(Jw HH.out a b _ (HB0.out.trans HP.out) (HP.out.gltW) (by omega) (by omega)).mono ?_;rintro en w119 ⟨x,h,rfl,hx,hp⟩;have HP119:=AA (HP.out.trans hp);obtain⟨c0,c1⟩:=HC.out _ (HP.out.trans hp);clear hp)
     by_cases h2:h=2
     ·subst h2;obtain⟨y,hy⟩:∃y,y=(b-1)-(x-a):=⟨_,rfl⟩;have hyI:(b:Int)-1-((x:Int)-(a:Int))=(y:Int):=by omega
      have hyb:a≤y∧y<b:=by omega
      clear hy;go_upto_region 14 with(go_at_call 232;refine(EV HH.out a b _ (HB0.out.trans HP119.out) (by omega) (by omega)).mono ?_;rintro en w120 ⟨rfl,hp⟩;have HP120:=AA (HP119.out.trans hp);obtain⟨c0,c1⟩:=HC.out _ (HP119.out.trans hp);clear hp)
      cases wp with
      |false=>
       go_upto_region 18 with fail
       by_cases ha:0<a
       ·have da:decide (0<(a:Int))=true:=by simp;omega
        go_wp2_with fail
        have hl:=HH.out.less HB0.out HP120.out (a-1) (y) (by omega) (by omega);try push_cast at hl
        rw[show((a-1:Nat):Int)=(a:Int)-1 from by omega]at hl;refine hl.mono ?_;clear hl;rintro en w122 ⟨k122,rfl,hp⟩;have HP122:=AA hp;obtain⟨c0,c1⟩:=HC.out _ hp;clear hp;cases k122 with
        |true=>
         go_upto_region 22 with(go_at_call 235;refine(B4 HH.out a b y _ (HB0.out.trans HP122.out) (by omega) (by omega) (by omega)).mono ?_;rintro en w124 ⟨k124,z124,rfl,hk1,hk2,hp⟩;have HP124:=AA (HP122.out.trans hp);obtain⟨c0,c1⟩:=HC.out _ (HP122.out.trans hp);clear hp)
         by_cases hlr:k124-a<b-k124
         ·have dlr:decide ((k124:Int)-(a:Int)<(b:Int)-(k124:Int))=true:=by simp;omega
          go_wp2_with (go_at_call 169;refine(HIH.out a k124 L _ (HB0.out.trans HP124.out) (by omega) (by omega) (by omega) (by omega)).mono ?_;rintro en w125 ⟨rfl,hp⟩;have HP125:=AA (HP124.out.trans hp);obtain⟨c0,c1⟩:=HC.out _ (HP124.out.trans hp);clear hp)
          go_roundw
          case rel=>exact⟨k124+1,b,L,_,_,by go_num,by go_num,rfl,rfl,rfl,by omega,by omega,by omega,by omega,HP125⟩
          case measure=>simp[intOf];omega
         ·have dlr:decide ((k124:Int)-(a:Int)<(b:Int)-(k124:Int))=false:=by simp;omega
          have hih:=HIH.out (k124+1) b L
          push_cast at hih
          have HI2:=AA hih;clear hih;go_wp2_with (go_at_call 169;refine(HI2.out _ (HB0.out.trans HP124.out) (by omega) (by omega) (by omega) (by omega)).mono ?_;rintro en w126 ⟨rfl,hp⟩;have HP126:=AA (HP124.out.trans hp);obtain⟨c0,c1⟩:=HC.out _ (HP124.out.trans hp);clear hp)
          go_roundw
          case rel=>exact⟨a,k124,L,_,_,by go_num,by go_num,rfl,rfl,rfl,by omega,by omega,by omega,by omega,HP126⟩
          case measure=>simp[intOf];omega
        |false=>
         go_wp2_with (go_at_call 234;refine(Ce HH.out a b y _ (HB0.out.trans HP122.out) (by omega) (by omega) (by omega)).mono ?_;rintro en w123 ⟨k123,rfl,hk1,hk2,hp⟩;have HP123:=AA (HP122.out.trans hp);obtain⟨c0,c1⟩:=HC.out _ (HP122.out.trans hp);clear hp)
         go_roundw
         case rel=>exact⟨k123,b,L,_,_,by go_num,by go_num,rfl,rfl,rfl,by omega,by omega,by omega,by omega,HP123⟩
         case measure=>simp[intOf];omega
       ·have da:decide (0<(a:Int))=false:=by simp;omega
        go_upto_region 22 with(go_at_call 235;refine(B4 HH.out a b y _ (HB0.out.trans HP120.out) (by omega) (by omega) (by omega)).mono ?_;rintro en w127 ⟨k127,z127,rfl,hk1,hk2,hp⟩;have HP127:=AA (HP120.out.trans hp);obtain⟨c0,c1⟩:=HC.out _ (HP120.out.trans hp);clear hp)
        by_cases hlr:k127-a<b-k127
        ·have dlr:decide ((k127:Int)-(a:Int)<(b:Int)-(k127:Int))=true:=by simp;omega
         go_wp2_with (go_at_call 169;refine(HIH.out a k127 L _ (HB0.out.trans HP127.out) (by omega) (by omega) (by omega) (by omega)).mono ?_;rintro en w128 ⟨rfl,hp⟩;have HP128:=AA (HP127.out.trans hp);obtain⟨c0,c1⟩:=HC.out _ (HP127.out.trans hp);clear hp)
         go_roundw
         case rel=>exact⟨k127+1,b,L,_,_,by go_num,by go_num,rfl,rfl,rfl,by omega,by omega,by omega,by omega,HP128⟩
         case measure=>simp[intOf];omega
        ·have dlr:decide ((k127:Int)-(a:Int)<(b:Int)-(k127:Int))=false:=by simp;omega
         have hih:=HIH.out (k127+1) b L
         push_cast at hih
         have HI2:=AA hih;clear hih;go_wp2_with (go_at_call 169;refine(HI2.out _ (HB0.out.trans HP127.out) (by omega) (by omega) (by omega) (by omega)).mono ?_;rintro en w129 ⟨rfl,hp⟩;have HP129:=AA (HP127.out.trans hp);obtain⟨c0,c1⟩:=HC.out _ (HP127.out.trans hp);clear hp)
         go_roundw
         case rel=>exact⟨a,k127,L,_,_,by go_num,by go_num,rfl,rfl,rfl,by omega,by omega,by omega,by omega,HP129⟩
         case measure=>simp[intOf];omega
      |true=>
       go_wp2_with fail
       refine(Hv HH.out a b _ (HB0.out.trans HP120.out) (by omega) (by omega)).mono ?_;rintro en w121 ⟨k121,rfl,hp⟩;have HP121:=AA (HP120.out.trans hp);obtain⟨c0,c1⟩:=HC.out _ (HP120.out.trans hp);clear hp;cases k121
       ·go_upto_region 18 with fail
        by_cases ha:0<a
        ·have da:decide (0<(a:Int))=true:=by simp;omega
         go_wp2_with fail
         have hl:=HH.out.less HB0.out HP121.out (a-1) (y) (by omega) (by omega);try push_cast at hl
         rw[show((a-1:Nat):Int)=(a:Int)-1 from by omega]at hl;refine hl.mono ?_;clear hl;rintro en w130 ⟨k130,rfl,hp⟩;have HP130:=AA hp;obtain⟨c0,c1⟩:=HC.out _ hp;clear hp;cases k130 with
         |true=>
          go_upto_region 22 with(go_at_call 235;refine(B4 HH.out a b y _ (HB0.out.trans HP130.out) (by omega) (by omega) (by omega)).mono ?_;rintro en w132 ⟨k132,z132,rfl,hk1,hk2,hp⟩;have HP132:=AA (HP130.out.trans hp);obtain⟨c0,c1⟩:=HC.out _ (HP130.out.trans hp);clear hp)
          by_cases hlr:k132-a<b-k132
          ·have dlr:decide ((k132:Int)-(a:Int)<(b:Int)-(k132:Int))=true:=by simp;omega
           go_wp2_with (go_at_call 169;refine(HIH.out a k132 L _ (HB0.out.trans HP132.out) (by omega) (by omega) (by omega) (by omega)).mono ?_;rintro en w133 ⟨rfl,hp⟩;have HP133:=AA (HP132.out.trans hp);obtain⟨c0,c1⟩:=HC.out _ (HP132.out.trans hp);clear hp)
           go_roundw
           case rel=>exact⟨k132+1,b,L,_,_,by go_num,by go_num,rfl,rfl,rfl,by omega,by omega,by omega,by omega,HP133⟩
           case measure=>simp[intOf];omega
          ·have dlr:decide ((k132:Int)-(a:Int)<(b:Int)-(k132:Int))=false:=by simp;omega
           have hih:=HIH.out (k132+1) b L
           push_cast at hih
           have HI2:=AA hih;clear hih;go_wp2_with (go_at_call 169;refine(HI2.out _ (HB0.out.trans HP132.out) (by omega) (by omega) (by omega) (by omega)).mono ?_;rintro en w134 ⟨rfl,hp⟩;have HP134:=AA (HP132.out.trans hp);obtain⟨c0,c1⟩:=HC.out _ (HP132.out.trans hp);clear hp)
           go_roundw
           case rel=>exact⟨a,k132,L,_,_,by go_num,by go_num,rfl,rfl,rfl,by omega,by omega,by omega,by omega,HP134⟩
           case measure=>simp[intOf];omega
         |false=>
          go_wp2_with (go_at_call 234;refine(Ce HH.out a b y _ (HB0.out.trans HP130.out) (by omega) (by omega) (by omega)).mono ?_;rintro en w131 ⟨k131,rfl,hk1,hk2,hp⟩;have HP131:=AA (HP130.out.trans hp);obtain⟨c0,c1⟩:=HC.out _ (HP130.out.trans hp);clear hp)
          go_roundw
          case rel=>exact⟨k131,b,L,_,_,by go_num,by go_num,rfl,rfl,rfl,by omega,by omega,by omega,by omega,HP131⟩
          case measure=>simp[intOf];omega
        ·have da:decide (0<(a:Int))=false:=by simp;omega
         go_upto_region 22 with(go_at_call 235;refine(B4 HH.out a b y _ (HB0.out.trans HP121.out) (by omega) (by omega) (by omega)).mono ?_;rintro en w135 ⟨k135,z135,rfl,hk1,hk2,hp⟩;have HP135:=AA (HP121.out.trans hp);obtain⟨c0,c1⟩:=HC.out _ (HP121.out.trans hp);clear hp)
         by_cases hlr:k135-a<b-k135
         ·have dlr:decide ((k135:Int)-(a:Int)<(b:Int)-(k135:Int))=true:=by simp;omega
          go_wp2_with (go_at_call 169;refine(HIH.out a k135 L _ (HB0.out.trans HP135.out) (by omega) (by omega) (by omega) (by omega)).mono ?_;rintro en w136 ⟨rfl,hp⟩;have HP136:=AA (HP135.out.trans hp);obtain⟨c0,c1⟩:=HC.out _ (HP135.out.trans hp);clear hp)
          go_roundw
          case rel=>exact⟨k135+1,b,L,_,_,by go_num,by go_num,rfl,rfl,rfl,by omega,by omega,by omega,by omega,HP136⟩
          case measure=>simp[intOf];omega
         ·have dlr:decide ((k135:Int)-(a:Int)<(b:Int)-(k135:Int))=false:=by simp;omega
          have hih:=HIH.out (k135+1) b L
          push_cast at hih
          have HI2:=AA hih;clear hih;go_wp2_with (go_at_call 169;refine(HI2.out _ (HB0.out.trans HP135.out) (by omega) (by omega) (by omega) (by omega)).mono ?_;rintro en w137 ⟨rfl,hp⟩;have HP137:=AA (HP135.out.trans hp);obtain⟨c0,c1⟩:=HC.out _ (HP135.out.trans hp);clear hp)
          go_roundw
          case rel=>exact⟨a,k135,L,_,_,by go_num,by go_num,rfl,rfl,rfl,by omega,by omega,by omega,by omega,HP137⟩
          case measure=>simp[intOf];omega
       ·go_wp2
        first
         |go_end0
         |refine bodyPost_ret (results_none rfl _ _ _) rfl ?_
        exact⟨rfl,HOff.out _ HP121.out⟩
     ·have e2:(h==2)=false:=by simp[h2]
      by_cases h1:h=1
      ·subst h1;cases wp with
       |false=>
        go_upto_region 18 with fail
        by_cases ha:0<a
        ·have da:decide (0<(a:Int))=true:=by simp;omega
         go_wp2_with fail
         have hl:=HH.out.less HB0.out HP119.out (a-1) (x) (by omega) (by omega);try push_cast at hl
         rw[show((a-1:Nat):Int)=(a:Int)-1 from by omega]at hl;refine hl.mono ?_;clear hl;rintro en w139 ⟨k139,rfl,hp⟩;have HP139:=AA hp;obtain⟨c0,c1⟩:=HC.out _ hp;clear hp;cases k139 with
         |true=>
          go_upto_region 22 with(go_at_call 235;refine(B4 HH.out a b x _ (HB0.out.trans HP139.out) (by omega) (by omega) (by omega)).mono ?_;rintro en w141 ⟨k141,z141,rfl,hk1,hk2,hp⟩;have HP141:=AA (HP139.out.trans hp);obtain⟨c0,c1⟩:=HC.out _ (HP139.out.trans hp);clear hp)
          by_cases hlr:k141-a<b-k141
          ·have dlr:decide ((k141:Int)-(a:Int)<(b:Int)-(k141:Int))=true:=by simp;omega
           go_wp2_with (go_at_call 169;refine(HIH.out a k141 L _ (HB0.out.trans HP141.out) (by omega) (by omega) (by omega) (by omega)).mono ?_;rintro en w142 ⟨rfl,hp⟩;have HP142:=AA (HP141.out.trans hp);obtain⟨c0,c1⟩:=HC.out _ (HP141.out.trans hp);clear hp)
           go_roundw
           case rel=>exact⟨k141+1,b,L,_,_,by go_num,by go_num,rfl,rfl,rfl,by omega,by omega,by omega,by omega,HP142⟩
           case measure=>simp[intOf];omega
          ·have dlr:decide ((k141:Int)-(a:Int)<(b:Int)-(k141:Int))=false:=by simp;omega
           have hih:=HIH.out (k141+1) b L
           push_cast at hih
           have HI2:=AA hih;clear hih;go_wp2_with (go_at_call 169;refine(HI2.out _ (HB0.out.trans HP141.out) (by omega) (by omega) (by omega) (by omega)).mono ?_;rintro en w143 ⟨rfl,hp⟩;have HP143:=AA (HP141.out.trans hp);obtain⟨c0,c1⟩:=HC.out _ (HP141.out.trans hp);clear hp)
           go_roundw
           case rel=>exact⟨a,k141,L,_,_,by go_num,by go_num,rfl,rfl,rfl,by omega,by omega,by omega,by omega,HP143⟩
           case measure=>simp[intOf];omega
         |false=>
          go_wp2_with (go_at_call 234;refine(Ce HH.out a b x _ (HB0.out.trans HP139.out) (by omega) (by omega) (by omega)).mono ?_;rintro en w140 ⟨k140,rfl,hk1,hk2,hp⟩;have HP140:=AA (HP139.out.trans hp);obtain⟨c0,c1⟩:=HC.out _ (HP139.out.trans hp);clear hp)
          go_roundw
          case rel=>exact⟨k140,b,L,_,_,by go_num,by go_num,rfl,rfl,rfl,by omega,by omega,by omega,by omega,HP140⟩
          case measure=>simp[intOf];omega
        ·have da:decide (0<(a:Int))=false:=by simp;omega
         go_upto_region 22 with(go_at_call 235;refine(B4 HH.out a b x _ (HB0.out.trans HP119.out) (by omega) (by omega) (by omega)).mono ?_;rintro en w144 ⟨k144,z144,rfl,hk1,hk2,hp⟩;have HP144:=AA (HP119.out.trans hp);obtain⟨c0,c1⟩:=HC.out _ (HP119.out.trans hp);clear hp)
         by_cases hlr:k144-a<b-k144
         ·have dlr:decide ((k144:Int)-(a:Int)<(b:Int)-(k144:Int))=true:=by simp;omega
          go_wp2_with (go_at_call 169;refine(HIH.out a k144 L _ (HB0.out.trans HP144.out) (by omega) (by omega) (by omega) (by omega)).mono ?_;rintro en w145 ⟨rfl,hp⟩;have HP145:=AA (HP144.out.trans hp);obtain⟨c0,c1⟩:=HC.out _ (HP144.out.trans hp);clear hp)
          go_roundw
          case rel=>exact⟨k144+1,b,L,_,_,by go_num,by go_num,rfl,rfl,rfl,by omega,by omega,by omega,by omega,HP145⟩
          case measure=>simp[intOf];omega
         ·have dlr:decide ((k144:Int)-(a:Int)<(b:Int)-(k144:Int))=false:=by simp;omega
          have hih:=HIH.out (k144+1) b L
          push_cast at hih
          have HI2:=AA hih;clear hih;go_wp2_with (go_at_call 169;refine(HI2.out _ (HB0.out.trans HP144.out) (by omega) (by omega) (by omega) (by omega)).mono ?_;rintro en w146 ⟨rfl,hp⟩;have HP146:=AA (HP144.out.trans hp);obtain⟨c0,c1⟩:=HC.out _ (HP144.out.trans hp);clear hp)
          go_roundw
          case rel=>exact⟨a,k144,L,_,_,by go_num,by go_num,rfl,rfl,rfl,by omega,by omega,by omega,by omega,HP146⟩
          case measure=>simp[intOf];omega
       |true=>
        go_wp2_with fail
        refine(Hv HH.out a b _ (HB0.out.trans HP119.out) (by omega) (by omega)).mono ?_;rintro en w138 ⟨k138,rfl,hp⟩;have HP138:=AA (HP119.out.trans hp);obtain⟨c0,c1⟩:=HC.out _ (HP119.out.trans hp);clear hp;cases k138
        ·go_upto_region 18 with fail
         by_cases ha:0<a
         ·have da:decide (0<(a:Int))=true:=by simp;omega
          go_wp2_with fail
          have hl:=HH.out.less HB0.out HP138.out (a-1) (x) (by omega) (by omega);try push_cast at hl
          rw[show((a-1:Nat):Int)=(a:Int)-1 from by omega]at hl;refine hl.mono ?_;clear hl;rintro en w147 ⟨k147,rfl,hp⟩;have HP147:=AA hp;obtain⟨c0,c1⟩:=HC.out _ hp;clear hp;cases k147 with
          |true=>
           go_upto_region 22 with(go_at_call 235;refine(B4 HH.out a b x _ (HB0.out.trans HP147.out) (by omega) (by omega) (by omega)).mono ?_;rintro en w149 ⟨k149,z149,rfl,hk1,hk2,hp⟩;have HP149:=AA (HP147.out.trans hp);obtain⟨c0,c1⟩:=HC.out _ (HP147.out.trans hp);clear hp)
           by_cases hlr:k149-a<b-k149
           ·have dlr:decide ((k149:Int)-(a:Int)<(b:Int)-(k149:Int))=true:=by simp;omega
            go_wp2_with (go_at_call 169;refine(HIH.out a k149 L _ (HB0.out.trans HP149.out) (by omega) (by omega) (by omega) (by omega)).mono ?_;rintro en w150 ⟨rfl,hp⟩;have HP150:=AA (HP149.out.trans hp);obtain⟨c0,c1⟩:=HC.out _ (HP149.out.trans hp);clear hp)
            go_roundw
            case rel=>exact⟨k149+1,b,L,_,_,by go_num,by go_num,rfl,rfl,rfl,by omega,by omega,by omega,by omega,HP150⟩
            case measure=>simp[intOf];omega
           ·have dlr:decide ((k149:Int)-(a:Int)<(b:Int)-(k149:Int))=false:=by simp;omega
            have hih:=HIH.out (k149+1) b L
            push_cast at hih
            have HI2:=AA hih;clear hih;go_wp2_with (go_at_call 169;refine(HI2.out _ (HB0.out.trans HP149.out) (by omega) (by omega) (by omega) (by omega)).mono ?_;rintro en w151 ⟨rfl,hp⟩;have HP151:=AA (HP149.out.trans hp);obtain⟨c0,c1⟩:=HC.out _ (HP149.out.trans hp);clear hp)
            go_roundw
            case rel=>exact⟨a,k149,L,_,_,by go_num,by go_num,rfl,rfl,rfl,by omega,by omega,by omega,by omega,HP151⟩
            case measure=>simp[intOf];omega
          |false=>
           go_wp2_with (go_at_call 234;refine(Ce HH.out a b x _ (HB0.out.trans HP147.out) (by omega) (by omega) (by omega)).mono ?_;rintro en w148 ⟨k148,rfl,hk1,hk2,hp⟩;have HP148:=AA (HP147.out.trans hp);obtain⟨c0,c1⟩:=HC.out _ (HP147.out.trans hp);clear hp)
           go_roundw
           case rel=>exact⟨k148,b,L,_,_,by go_num,by go_num,rfl,rfl,rfl,by omega,by omega,by omega,by omega,HP148⟩
           case measure=>simp[intOf];omega
         ·have da:decide (0<(a:Int))=false:=by simp;omega
          go_upto_region 22 with(go_at_call 235;refine(B4 HH.out a b x _ (HB0.out.trans HP138.out) (by omega) (by omega) (by omega)).mono ?_;rintro en w152 ⟨k152,z152,rfl,hk1,hk2,hp⟩;have HP152:=AA (HP138.out.trans hp);obtain⟨c0,c1⟩:=HC.out _ (HP138.out.trans hp);clear hp)
          by_cases hlr:k152-a<b-k152
          ·have dlr:decide ((k152:Int)-(a:Int)<(b:Int)-(k152:Int))=true:=by simp;omega
           go_wp2_with (go_at_call 169;refine(HIH.out a k152 L _ (HB0.out.trans HP152.out) (by omega) (by omega) (by omega) (by omega)).mono ?_;rintro en w153 ⟨rfl,hp⟩;have HP153:=AA (HP152.out.trans hp);obtain⟨c0,c1⟩:=HC.out _ (HP152.out.trans hp);clear hp)
           go_roundw
           case rel=>exact⟨k152+1,b,L,_,_,by go_num,by go_num,rfl,rfl,rfl,by omega,by omega,by omega,by omega,HP153⟩
           case measure=>simp[intOf];omega
          ·have dlr:decide ((k152:Int)-(a:Int)<(b:Int)-(k152:Int))=false:=by simp;omega
           have hih:=HIH.out (k152+1) b L
           push_cast at hih
           have HI2:=AA hih;clear hih;go_wp2_with (go_at_call 169;refine(HI2.out _ (HB0.out.trans HP152.out) (by omega) (by omega) (by omega) (by omega)).mono ?_;rintro en w154 ⟨rfl,hp⟩;have HP154:=AA (HP152.out.trans hp);obtain⟨c0,c1⟩:=HC.out _ (HP152.out.trans hp);clear hp)
           go_roundw
           case rel=>exact⟨a,k152,L,_,_,by go_num,by go_num,rfl,rfl,rfl,by omega,by omega,by omega,by omega,HP154⟩
           case measure=>simp[intOf];omega
        ·go_wp2
         first
          |go_end0
          |refine bodyPost_ret (results_none rfl _ _ _) rfl ?_
         exact⟨rfl,HOff.out _ HP138.out⟩
      ·have e1:(h==1)=false:=by simp[h1]
       cases wp with
       |false=>
        go_upto_region 18 with fail
        by_cases ha:0<a
        ·have da:decide (0<(a:Int))=true:=by simp;omega
         go_wp2_with fail
         have hl:=HH.out.less HB0.out HP119.out (a-1) (x) (by omega) (by omega);try push_cast at hl
         rw[show((a-1:Nat):Int)=(a:Int)-1 from by omega]at hl;refine hl.mono ?_;clear hl;rintro en w155 ⟨k155,rfl,hp⟩;have HP155:=AA hp;obtain⟨c0,c1⟩:=HC.out _ hp;clear hp;cases k155 with
         |true=>
          go_upto_region 22 with(go_at_call 235;refine(B4 HH.out a b x _ (HB0.out.trans HP155.out) (by omega) (by omega) (by omega)).mono ?_;rintro en w157 ⟨k157,z157,rfl,hk1,hk2,hp⟩;have HP157:=AA (HP155.out.trans hp);obtain⟨c0,c1⟩:=HC.out _ (HP155.out.trans hp);clear hp)
          by_cases hlr:k157-a<b-k157
          ·have dlr:decide ((k157:Int)-(a:Int)<(b:Int)-(k157:Int))=true:=by simp;omega
           go_wp2_with (go_at_call 169;refine(HIH.out a k157 L _ (HB0.out.trans HP157.out) (by omega) (by omega) (by omega) (by omega)).mono ?_;rintro en w158 ⟨rfl,hp⟩;have HP158:=AA (HP157.out.trans hp);obtain⟨c0,c1⟩:=HC.out _ (HP157.out.trans hp);clear hp)
           go_roundw
           case rel=>exact⟨k157+1,b,L,_,_,by go_num,by go_num,rfl,rfl,rfl,by omega,by omega,by omega,by omega,HP158⟩
           case measure=>simp[intOf];omega
          ·have dlr:decide ((k157:Int)-(a:Int)<(b:Int)-(k157:Int))=false:=by simp;omega
           have hih:=HIH.out (k157+1) b L
           push_cast at hih
           have HI2:=AA hih;clear hih;go_wp2_with (go_at_call 169;refine(HI2.out _ (HB0.out.trans HP157.out) (by omega) (by omega) (by omega) (by omega)).mono ?_;rintro en w159 ⟨rfl,hp⟩;have HP159:=AA (HP157.out.trans hp);obtain⟨c0,c1⟩:=HC.out _ (HP157.out.trans hp);clear hp)
           go_roundw
           case rel=>exact⟨a,k157,L,_,_,by go_num,by go_num,rfl,rfl,rfl,by omega,by omega,by omega,by omega,HP159⟩
           case measure=>simp[intOf];omega
         |false=>
          go_wp2_with (go_at_call 234;refine(Ce HH.out a b x _ (HB0.out.trans HP155.out) (by omega) (by omega) (by omega)).mono ?_;rintro en w156 ⟨k156,rfl,hk1,hk2,hp⟩;have HP156:=AA (HP155.out.trans hp);obtain⟨c0,c1⟩:=HC.out _ (HP155.out.trans hp);clear hp)
          go_roundw
          case rel=>exact⟨k156,b,L,_,_,by go_num,by go_num,rfl,rfl,rfl,by omega,by omega,by omega,by omega,HP156⟩
          case measure=>simp[intOf];omega
        ·have da:decide (0<(a:Int))=false:=by simp;omega
         go_upto_region 22 with(go_at_call 235;refine(B4 HH.out a b x _ (HB0.out.trans HP119.out) (by omega) (by omega) (by omega)).mono ?_;rintro en w160 ⟨k160,z160,rfl,hk1,hk2,hp⟩;have HP160:=AA (HP119.out.trans hp);obtain⟨c0,c1⟩:=HC.out _ (HP119.out.trans hp);clear hp)
         by_cases hlr:k160-a<b-k160
         ·have dlr:decide ((k160:Int)-(a:Int)<(b:Int)-(k160:Int))=true:=by simp;omega
          go_wp2_with (go_at_call 169;refine(HIH.out a k160 L _ (HB0.out.trans HP160.out) (by omega) (by omega) (by omega) (by omega)).mono ?_;rintro en w161 ⟨rfl,hp⟩;have HP161:=AA (HP160.out.trans hp);obtain⟨c0,c1⟩:=HC.out _ (HP160.out.trans hp);clear hp)
          go_roundw
          case rel=>exact⟨k160+1,b,L,_,_,by go_num,by go_num,rfl,rfl,rfl,by omega,by omega,by omega,by omega,HP161⟩
          case measure=>simp[intOf];omega
         ·have dlr:decide ((k160:Int)-(a:Int)<(b:Int)-(k160:Int))=false:=by simp;omega
          have hih:=HIH.out (k160+1) b L
          push_cast at hih
          have HI2:=AA hih;clear hih;go_wp2_with (go_at_call 169;refine(HI2.out _ (HB0.out.trans HP160.out) (by omega) (by omega) (by omega) (by omega)).mono ?_;rintro en w162 ⟨rfl,hp⟩;have HP162:=AA (HP160.out.trans hp);obtain⟨c0,c1⟩:=HC.out _ (HP160.out.trans hp);clear hp)
          go_roundw
          case rel=>exact⟨a,k160,L,_,_,by go_num,by go_num,rfl,rfl,rfl,by omega,by omega,by omega,by omega,HP162⟩
          case measure=>simp[intOf];omega
       |true=>
        go_upto_region 18 with fail
        by_cases ha:0<a
        ·have da:decide (0<(a:Int))=true:=by simp;omega
         go_wp2_with fail
         have hl:=HH.out.less HB0.out HP119.out (a-1) (x) (by omega) (by omega);try push_cast at hl
         rw[show((a-1:Nat):Int)=(a:Int)-1 from by omega]at hl;refine hl.mono ?_;clear hl;rintro en w163 ⟨k163,rfl,hp⟩;have HP163:=AA hp;obtain⟨c0,c1⟩:=HC.out _ hp;clear hp;cases k163 with
         |true=>
          go_upto_region 22 with(go_at_call 235;refine(B4 HH.out a b x _ (HB0.out.trans HP163.out) (by omega) (by omega) (by omega)).mono ?_;rintro en w165 ⟨k165,z165,rfl,hk1,hk2,hp⟩;have HP165:=AA (HP163.out.trans hp);obtain⟨c0,c1⟩:=HC.out _ (HP163.out.trans hp);clear hp)
          by_cases hlr:k165-a<b-k165
          ·have dlr:decide ((k165:Int)-(a:Int)<(b:Int)-(k165:Int))=true:=by simp;omega
           go_wp2_with (go_at_call 169;refine(HIH.out a k165 L _ (HB0.out.trans HP165.out) (by omega) (by omega) (by omega) (by omega)).mono ?_;rintro en w166 ⟨rfl,hp⟩;have HP166:=AA (HP165.out.trans hp);obtain⟨c0,c1⟩:=HC.out _ (HP165.out.trans hp);clear hp)
           go_roundw
           case rel=>exact⟨k165+1,b,L,_,_,by go_num,by go_num,rfl,rfl,rfl,by omega,by omega,by omega,by omega,HP166⟩
           case measure=>simp[intOf];omega
          ·have dlr:decide ((k165:Int)-(a:Int)<(b:Int)-(k165:Int))=false:=by simp;omega
           have hih:=HIH.out (k165+1) b L
           push_cast at hih
           have HI2:=AA hih;clear hih;go_wp2_with (go_at_call 169;refine(HI2.out _ (HB0.out.trans HP165.out) (by omega) (by omega) (by omega) (by omega)).mono ?_;rintro en w167 ⟨rfl,hp⟩;have HP167:=AA (HP165.out.trans hp);obtain⟨c0,c1⟩:=HC.out _ (HP165.out.trans hp);clear hp)
           go_roundw
           case rel=>exact⟨a,k165,L,_,_,by go_num,by go_num,rfl,rfl,rfl,by omega,by omega,by omega,by omega,HP167⟩
           case measure=>simp[intOf];omega
         |false=>
          go_wp2_with (go_at_call 234;refine(Ce HH.out a b x _ (HB0.out.trans HP163.out) (by omega) (by omega) (by omega)).mono ?_;rintro en w164 ⟨k164,rfl,hk1,hk2,hp⟩;have HP164:=AA (HP163.out.trans hp);obtain⟨c0,c1⟩:=HC.out _ (HP163.out.trans hp);clear hp)
          go_roundw
          case rel=>exact⟨k164,b,L,_,_,by go_num,by go_num,rfl,rfl,rfl,by omega,by omega,by omega,by omega,HP164⟩
          case measure=>simp[intOf];omega
        ·have da:decide (0<(a:Int))=false:=by simp;omega
         go_upto_region 22 with(go_at_call 235;refine(B4 HH.out a b x _ (HB0.out.trans HP119.out) (by omega) (by omega) (by omega)).mono ?_;rintro en w168 ⟨k168,z168,rfl,hk1,hk2,hp⟩;have HP168:=AA (HP119.out.trans hp);obtain⟨c0,c1⟩:=HC.out _ (HP119.out.trans hp);clear hp)
         by_cases hlr:k168-a<b-k168
         ·have dlr:decide ((k168:Int)-(a:Int)<(b:Int)-(k168:Int))=true:=by simp;omega
          go_wp2_with (go_at_call 169;refine(HIH.out a k168 L _ (HB0.out.trans HP168.out) (by omega) (by omega) (by omega) (by omega)).mono ?_;rintro en w169 ⟨rfl,hp⟩;have HP169:=AA (HP168.out.trans hp);obtain⟨c0,c1⟩:=HC.out _ (HP168.out.trans hp);clear hp)
          go_roundw
          case rel=>exact⟨k168+1,b,L,_,_,by go_num,by go_num,rfl,rfl,rfl,by omega,by omega,by omega,by omega,HP169⟩
          case measure=>simp[intOf];omega
         ·have dlr:decide ((k168:Int)-(a:Int)<(b:Int)-(k168:Int))=false:=by simp;omega
          have hih:=HIH.out (k168+1) b L
          push_cast at hih
          have HI2:=AA hih;clear hih;go_wp2_with (go_at_call 169;refine(HI2.out _ (HB0.out.trans HP168.out) (by omega) (by omega) (by omega) (by omega)).mono ?_;rintro en w170 ⟨rfl,hp⟩;have HP170:=AA (HP168.out.trans hp);obtain⟨c0,c1⟩:=HC.out _ (HP168.out.trans hp);clear hp)
          go_roundw
          case rel=>exact⟨a,k168,L,_,_,by go_num,by go_num,rfl,rfl,rfl,by omega,by omega,by omega,by omega,HP170⟩
          case measure=>simp[intOf];omega
end
end
end Go.Proofs.YtadllffeoibelaaGreat
