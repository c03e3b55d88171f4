/-
  Parts of the proof. No condition.
-/
import Derived.Test.YtadllffeoibelaaGreatS9
open Go.Proofs.Tryz
namespace Go.Proofs.YtadllffeoibelaaGreat
set_option maxRecDepth 100000
set_option maxHeartbeats 32000000
set_option linter.all false
section
open Go.RowKit
section
variable {α:Type}{c:Be α}{t:TypeId}{w0:World}{g n f F:Nat}{sb lb:Array Value}{lt:α->α->Bool}{l0:List α}
theorem Jd(H:Srt c t w0 g n f F sb lb lt l0)(a b:Nat)(w:World)(hw:BG c t g l0 w0 w)(hab:a+12<b)(hb:b<=n):Calls prog 233 #[.agg #[.func (.func F) #[] lb,.func (.func f) #[] sb],.int .i64 (a:Int),.int .i64 (b:Int)] w fun e w'=>∃k,e= .returned (.bool k)/\BG c t g l0 w w':=by
 have HH:=AA H;have hgw:g<w.heap.size:=hw.glt;obtain⟨B,hB⟩:=ZH (w.alloc (.cells #[.func (.func F) #[] lb,.func (.func f) #[] sb] 190));have h0B:BG c t g l0 w0 B:=by rw[hB];exact hw.alloc _
 have hBB:BG c t g l0 B B:=h0B.self;have hBx:Blk B w.heap.size 190 #[.func (.func F) #[] lb,.func (.func f) #[] sb]:=by rw[hB];exact Blk.new _ _ _
 have yH:Hid (∀V,BG c t g l0 B V->BG c t g l0 w V):=fun V h=>by rw[hB]at h;exact h.off
 have HB0:=AA h0B;have HC:Hid (∀V,BG c t g l0 B V->V.cell? ⟨w.heap.size,0,none⟩=some (.func (.func F) #[] lb)/\V.cell? ⟨w.heap.size,1,none⟩=some (.func (.func f) #[] sb)):=fun V h=>⟨(h.box hBx (by omega)).cell 0,(h.box hBx (by omega)).cell 1⟩
 have eg:=H.eg;have hn6:=H.small;have HW:=AA hB;have HBB:=AA hBB;clear hw hB h0B hBB hBx H;go_enter func233,ntmps233;go_upto_region 1 with fail
 simp only[<-HW.out];go_upto_region 3 with fail
 go_loopw [7,8] (fun iv jv wr=>∃i j:Nat,iv= .int .i64 (i:Int)/\jv= .int .i64 (j:Int)/\a+1<=i/\i<=b/\j<=5/\Hid (BG c t g l0 B wr)) (fun _ jv _=>5-(intOf jv).toNat)
 case atStart=>exact⟨a+1,0,by go_num,rfl,by omega,by omega,by omega,HBB⟩
 case round=>
  obtain⟨i,j,rfl,rfl,hi,hib,hj,HP⟩:=hrel;by_cases hj5:j<5
  ·have dj:decide ((j:Int)<5)=true:=by simp;omega
   go_wp2
   go_loopw [7] (fun iv wr=>∃i:Nat,iv= .int .i64 (i:Int)/\a+1<=i/\i<=b/\Hid (BG c t g l0 B wr)) (fun iv _=>b-(intOf iv).toNat)
   case atStart=>exact⟨i,rfl,hi,hib,HP⟩
   case round=>
    obtain⟨i,rfl,hi,hib,HP⟩:=hrel;obtain⟨c0,c1⟩:=HC.out _ HP.out;by_cases h1:i<b
    ·have d1:=ZK (show i<b by omega)
     go_wp2_with fail
     have hl:=HH.out.less HB0.out HP.out (i) (i-1) (by omega) (by omega);try push_cast at hl
     rw[show((i-1:Nat):Int)=(i:Int)-1 from by omega]at hl;refine hl.mono ?_;clear hl;rintro en w3 ⟨k3,rfl,hp⟩;have HP3:=AA hp;obtain⟨c0,c1⟩:=HC.out _ hp;clear hp;cases k3 with
     |false=>
      go_wp2;go_roundw
      case rel=>exact⟨i+1,by go_num,by omega,by omega,HP3⟩
      case measure=>simp[intOf];omega
     |true=>
      have e1:((i:Int)==(b:Int))=false:=by simp;omega
      by_cases h50:b<a+50
      ·have d50:decide ((b:Int)-(a:Int)<50)=true:=by simp;omega
       go_wp2;go_ret;exact⟨false,rfl,yH.out _ HP3.out⟩
      ·have d50:decide ((b:Int)-(a:Int)<50)=false:=by simp;omega
       obtain⟨w4,xN,hp⟩:=HH.out.swap HB0.out HP3.out (i) (i-1) (by omega) (by omega) (by omega);try push_cast at xN
       rw[show((i-1:Nat):Int)=(i:Int)-1 from by omega]at xN;have HP4:=AA hp;obtain⟨c0',c1'⟩:=HC.out _ hp;clear hp;go_upto_region 12 with fail
       by_cases h12:a+2<=i
       ·have d12:decide (2<=(i:Int)-(a:Int))=true:=by simp;omega
        go_wp2
        go_loopw [9] (fun kv wr=>∃k:Nat,kv= .int .i64 (k:Int)/\k<=i/\Hid (BG c t g l0 B wr)) (fun kv _=>(intOf kv).toNat)
        case atStart=>exact⟨i-1,by go_num,by omega,HP4⟩
        case round=>
         obtain⟨k,rfl,hki,HP⟩:=hrel;obtain⟨c0,c1⟩:=HC.out _ HP.out;by_cases hk:1<=k
         ·have dk:decide (1<=(k:Int))=true:=by simp;omega
          go_wp2_with fail
          have hl:=HH.out.less HB0.out HP.out (k) (k-1) (by omega) (by omega);try push_cast at hl
          rw[show((k-1:Nat):Int)=(k:Int)-1 from by omega]at hl;refine hl.mono ?_;clear hl;rintro en w5 ⟨k5,rfl,hp⟩;have HP5:=AA hp;obtain⟨c0,c1⟩:=HC.out _ hp;clear hp;cases k5 with
          |true=>
           obtain⟨w6,xN,hp⟩:=HH.out.swap HB0.out HP5.out (k) (k-1) (by omega) (by omega) (by omega);try push_cast at xN
           rw[show((k-1:Nat):Int)=(k:Int)-1 from by omega]at xN;have HP6:=AA hp;obtain⟨c0',c1'⟩:=HC.out _ hp;clear hp;go_wp2;go_roundw
           case rel=>exact⟨k-1,by go_num,by omega,HP6⟩
           case measure=>simp[intOf];omega
          |false=>
           by_cases h18:i+2<=b
           ·have d18:decide (2<=(b:Int)-(i:Int))=true:=by simp;omega
            go_wp2
            go_loopw [10] (fun kv wr=>∃k:Nat,kv= .int .i64 (k:Int)/\1<=k/\k<=b/\Hid (BG c t g l0 B wr)) (fun kv _=>b-(intOf kv).toNat)
            case atStart=>exact⟨i+1,by go_num,by omega,by omega,HP5⟩
            case round=>
             obtain⟨k,rfl,hk1,hkb,HP⟩:=hrel;obtain⟨c0,c1⟩:=HC.out _ HP.out;by_cases hk:k<b
             ·have dk:=ZK (show k<b by omega)
              go_wp2_with fail
              have hl:=HH.out.less HB0.out HP.out (k) (k-1) (by omega) (by omega);try push_cast at hl
              rw[show((k-1:Nat):Int)=(k:Int)-1 from by omega]at hl;refine hl.mono ?_;clear hl;rintro en w7 ⟨k7,rfl,hp⟩;have HP7:=AA hp;obtain⟨c0,c1⟩:=HC.out _ hp;clear hp;cases k7 with
              |true=>
               obtain⟨w8,xN,hp⟩:=HH.out.swap HB0.out HP7.out (k) (k-1) (by omega) (by omega) (by omega);try push_cast at xN
               rw[show((k-1:Nat):Int)=(k:Int)-1 from by omega]at xN;have HP8:=AA hp;obtain⟨c0',c1'⟩:=HC.out _ hp;clear hp;go_wp2;go_roundw
               case rel=>exact⟨k+1,by go_num,by omega,by omega,HP8⟩
               case measure=>simp[intOf];omega
              |false=>
               go_wp2;go_roundw
               case rel=>exact⟨i,j+1,rfl,by go_num,by omega,by omega,by omega,HP7⟩
               case measure=>simp[intOf];omega
             ·have dk:=ZL (show b<=k by omega)
              go_wp2;go_roundw
              case rel=>exact⟨i,j+1,rfl,by go_num,by omega,by omega,by omega,HP⟩
              case measure=>simp[intOf];omega
           ·have d18:decide (2<=(b:Int)-(i:Int))=false:=by simp;omega
            go_wp2;go_roundw
            case rel=>exact⟨i,j+1,rfl,by go_num,by omega,by omega,by omega,HP5⟩
            case measure=>simp[intOf];omega
         ·have dk:decide (1<=(k:Int))=false:=by simp;omega
          by_cases h18:i+2<=b
          ·have d18:decide (2<=(b:Int)-(i:Int))=true:=by simp;omega
           go_wp2
           go_loopw [10] (fun kv wr=>∃k:Nat,kv= .int .i64 (k:Int)/\1<=k/\k<=b/\Hid (BG c t g l0 B wr)) (fun kv _=>b-(intOf kv).toNat)
           case atStart=>exact⟨i+1,by go_num,by omega,by omega,HP⟩
           case round=>
            obtain⟨k,rfl,hk1,hkb,HP⟩:=hrel;obtain⟨c0,c1⟩:=HC.out _ HP.out;by_cases hk:k<b
            ·have dk:=ZK (show k<b by omega)
             go_wp2_with fail
             have hl:=HH.out.less HB0.out HP.out (k) (k-1) (by omega) (by omega);try push_cast at hl
             rw[show((k-1:Nat):Int)=(k:Int)-1 from by omega]at hl;refine hl.mono ?_;clear hl;rintro en w7 ⟨k7,rfl,hp⟩;have HP7:=AA hp;obtain⟨c0,c1⟩:=HC.out _ hp;clear hp;cases k7 with
             |true=>
              obtain⟨w8,xN,hp⟩:=HH.out.swap HB0.out HP7.out (k) (k-1) (by omega) (by omega) (by omega);try push_cast at xN
              rw[show((k-1:Nat):Int)=(k:Int)-1 from by omega]at xN;have HP8:=AA hp;obtain⟨c0',c1'⟩:=HC.out _ hp;clear hp;go_wp2;go_roundw
              case rel=>exact⟨k+1,by go_num,by omega,by omega,HP8⟩
              case measure=>simp[intOf];omega
             |false=>
              go_wp2;go_roundw
              case rel=>exact⟨i,j+1,rfl,by go_num,by omega,by omega,by omega,HP7⟩
              case measure=>simp[intOf];omega
            ·have dk:=ZL (show b<=k by omega)
             go_wp2;go_roundw
             case rel=>exact⟨i,j+1,rfl,by go_num,by omega,by omega,by omega,HP⟩
             case measure=>simp[intOf];omega
          ·have d18:decide (2<=(b:Int)-(i:Int))=false:=by simp;omega
           go_wp2;go_roundw
           case rel=>exact⟨i,j+1,rfl,by go_num,by omega,by omega,by omega,HP⟩
           case measure=>simp[intOf];omega
       ·have d12:decide (2<=(i:Int)-(a:Int))=false:=by simp;omega
        by_cases h18:i+2<=b
        ·have d18:decide (2<=(b:Int)-(i:Int))=true:=by simp;omega
         go_wp2
         go_loopw [10] (fun kv wr=>∃k:Nat,kv= .int .i64 (k:Int)/\1<=k/\k<=b/\Hid (BG c t g l0 B wr)) (fun kv _=>b-(intOf kv).toNat)
         case atStart=>exact⟨i+1,by go_num,by omega,by omega,HP4⟩
         case round=>
          obtain⟨k,rfl,hk1,hkb,HP⟩:=hrel;obtain⟨c0,c1⟩:=HC.out _ HP.out;by_cases hk:k<b
          ·have dk:=ZK (show k<b by omega)
           go_wp2_with fail
           have hl:=HH.out.less HB0.out HP.out (k) (k-1) (by omega) (by omega);try push_cast at hl
           rw[show((k-1:Nat):Int)=(k:Int)-1 from by omega]at hl;refine hl.mono ?_;clear hl;rintro en w7 ⟨k7,rfl,hp⟩;have HP7:=AA hp;obtain⟨c0,c1⟩:=HC.out _ hp;clear hp;cases k7 with
           |true=>
            obtain⟨w8,xN,hp⟩:=HH.out.swap HB0.out HP7.out (k) (k-1) (by omega) (by omega) (by omega);try push_cast at xN
            rw[show((k-1:Nat):Int)=(k:Int)-1 from by omega]at xN;have HP8:=AA hp;obtain⟨c0',c1'⟩:=HC.out _ hp;clear hp;go_wp2;go_roundw
            case rel=>exact⟨k+1,by go_num,by omega,by omega,HP8⟩
            case measure=>simp[intOf];omega
           |false=>
            go_wp2;go_roundw
            case rel=>exact⟨i,j+1,rfl,by go_num,by omega,by omega,by omega,HP7⟩
            case measure=>simp[intOf];omega
          ·have dk:=ZL (show b<=k by omega)
           go_wp2;go_roundw
           case rel=>exact⟨i,j+1,rfl,by go_num,by omega,by omega,by omega,HP⟩
           case measure=>simp[intOf];omega
        ·have d18:decide (2<=(b:Int)-(i:Int))=false:=by simp;omega
         go_wp2;go_roundw
         case rel=>exact⟨i,j+1,rfl,by go_num,by omega,by omega,by omega,HP4⟩
         case measure=>simp[intOf];omega
    ·have d1:=ZL (show b<=i by omega)
     have e1:((i:Int)==(b:Int))=true:=by simp;omega
     go_wp2;go_ret;exact⟨true,rfl,yH.out _ HP.out⟩
  ·have dj:decide ((j:Int)<5)=false:=by simp;omega
   go_wp2;go_ret;exact⟨false,rfl,yH.out _ HP.out⟩
end
section
variable {α:Type}{c:Be α}{t:TypeId}{w0:World}{g n f F:Nat}{sb lb:Array Value}{lt:α->α->Bool}{l0:List α}
theorem C2(H:Srt c t w0 g n f F sb lb lt l0)(a b p:Nat)(w:World)(hw:BG c t g l0 w0 w)(hab:a+12<b)(hb:b<=n)(hpn:p<n):Calls prog 234 #[.agg #[.func (.func F) #[] lb,.func (.func f) #[] sb],.int .i64 (a:Int),.int .i64 (b:Int),.int .i64 (p:Int)] w fun e w'=>∃k:Nat,e= .returned (.int .i64 (k:Int))/\a<k/\k<=b/\BG c t g l0 w w':=by
 have HH:=AA H;have hgw:g<w.heap.size:=hw.glt;obtain⟨B,hB⟩:=ZH (w.alloc (.cells #[.func (.func F) #[] lb,.func (.func f) #[] sb] 190));have h0B:BG c t g l0 w0 B:=by rw[hB];exact hw.alloc _
 have hBB:BG c t g l0 B B:=h0B.self;have hBx:Blk B w.heap.size 190 #[.func (.func F) #[] lb,.func (.func f) #[] sb]:=by rw[hB];exact Blk.new _ _ _
 have yH:Hid (∀V,BG c t g l0 B V->BG c t g l0 w V):=fun V h=>by rw[hB]at h;exact h.off
 have HB0:=AA h0B;have HC:Hid (∀V,BG c t g l0 B V->V.cell? ⟨w.heap.size,0,none⟩=some (.func (.func F) #[] lb)/\V.cell? ⟨w.heap.size,1,none⟩=some (.func (.func f) #[] sb)):=fun V h=>⟨(h.box hBx (by omega)).cell 0,(h.box hBx (by omega)).cell 1⟩
 have eg:=H.eg;have hn6:=H.small;have HW:=AA hB;have HBB:=AA hBB;clear hw hB h0B hBB hBx H;go_enter func234,ntmps234;go_upto_region 1 with fail
 simp only[<-HW.out];obtain⟨c0,c1⟩:=HC.out _ HBB.out;obtain⟨w2,xN,hp⟩:=HH.out.swap HB0.out HBB.out (a) (p) (by omega) (by omega) (by omega);try push_cast at xN
 have HP2:=AA hp;obtain⟨c0',c1'⟩:=HC.out _ hp;clear hp;go_upto_region 3 with fail
 go_wp2
 go_loopw [9,10] (fun iv jv wr=>∃i j:Nat,iv= .int .i64 (i:Int)/\jv= .int .i64 (j:Int)/\a+1<=i/\i<=b/\a<=j/\j+1<=b/\i<=j+2/\Hid (BG c t g l0 B wr)) (fun iv jv _=>(intOf jv).toNat+(b-(intOf iv).toNat))
 case atStart=>exact⟨a+1,b-1,by go_num,by go_num,by omega,by omega,by omega,by omega,by omega,HP2⟩
 case round=>
  obtain⟨i,j,rfl,rfl,hi,hib,haj,hjb,hij,HP⟩:=hrel;go_wp2
  go_loopw [9] (fun iv wr=>∃zz:Nat,iv= .int .i64 (zz:Int)/\i<=zz/\zz<=b/\zz<=(j)+2/\Hid (BG c t g l0 B wr)) (fun iv _=>b-(intOf iv).toNat)
  case atStart=>exact⟨i,by go_num,by omega,by omega,by omega,HP⟩
  case round=>
   obtain⟨i11,rfl,hi11,hi11',hi11'',hEp⟩:=hrel;obtain⟨c0,c1⟩:=HC.out _ hEp.out;by_cases hc:i11<=j
   ·have dc:decide ((i11:Int)<=(j:Int))=true:=by simp;omega
    go_wp2_with fail
    have hl:=HH.out.less HB0.out hEp.out (a) (i11) (by omega) (by omega);try push_cast at hl
    refine hl.mono ?_;clear hl;rintro en w13 ⟨k13,rfl,hp⟩;have hFq:=AA hp;obtain⟨c0,c1⟩:=HC.out _ hp;clear hp;cases k13 with
    |false=>
     go_wp2;go_roundw
     case rel=>exact⟨i11+1,by go_num,by omega,by omega,by omega,hFq⟩
     case measure=>simp[intOf];omega
    |true=>
     go_wp2
     go_loopw [10] (fun iv wr=>∃zz:Nat,iv= .int .i64 (zz:Int)/\a<=zz/\zz<=j/\i11<=zz+2/\Hid (BG c t g l0 B wr)) (fun iv _=>(intOf iv).toNat)
     case atStart=>exact⟨j,by go_num,by omega,by omega,by omega,hFq⟩
     case round=>
      obtain⟨j14,rfl,hj14,hj14',hj14'',hEq⟩:=hrel;obtain⟨c0,c1⟩:=HC.out _ hEq.out;by_cases hc:i11<=j14
      ·have dc:decide ((i11:Int)<=(j14:Int))=true:=by simp;omega
       go_wp2_with fail
       have hl:=HH.out.less HB0.out hEq.out (a) (j14) (by omega) (by omega);try push_cast at hl
       refine hl.mono ?_;clear hl;rintro en w16 ⟨k16,rfl,hp⟩;have hFr:=AA hp;obtain⟨c0,c1⟩:=HC.out _ hp;clear hp;cases k16 with
       |true=>
        go_wp2;go_roundw
        case rel=>exact⟨j14-1,by go_num,by omega,by omega,by omega,hFr⟩
        case measure=>simp[intOf];omega
       |false=>
        have dc2:=ZL (show i11<=j14 by omega)
        have dc3:decide (j14<i11)=false:=by simp;omega
        obtain⟨w17,xN,hp⟩:=HH.out.swap HB0.out hFr.out (i11) (j14) (by omega) (by omega) (by omega);try push_cast at xN
        have HP17:=AA hp;obtain⟨c0',c1'⟩:=HC.out _ hp;clear hp;go_wp2;go_roundw
        case rel=>exact⟨i11+1,j14-1,by go_num,by go_num,by omega,by omega,by omega,by omega,by omega,HP17⟩
        case measure=>simp[intOf];omega
      ·have dc:decide ((i11:Int)<=(j14:Int))=false:=by simp;omega
       have dc2:=ZK (show j14<i11 by omega)
       have dc3:decide (j14<i11)=true:=by simp;omega
       go_wp2;go_ret;exact⟨i11,rfl,by omega,by omega,yH.out _ hEq.out⟩
   ·have dc:decide ((i11:Int)<=(j:Int))=false:=by simp;omega
    go_wp2
    go_loopw [10] (fun iv wr=>∃zz:Nat,iv= .int .i64 (zz:Int)/\a<=zz/\zz<=j/\i11<=zz+2/\Hid (BG c t g l0 B wr)) (fun iv _=>(intOf iv).toNat)
    case atStart=>exact⟨j,by go_num,by omega,by omega,by omega,hEp⟩
    case round=>
     obtain⟨j18,rfl,hj18,hj18',hj18'',hFs⟩:=hrel;obtain⟨c0,c1⟩:=HC.out _ hFs.out;have hc:¬i11<=j18:=by omega
     have dc:decide ((i11:Int)<=(j18:Int))=false:=by simp;omega
     have dc2:=ZK (show j18<i11 by omega)
     have dc3:decide (j18<i11)=true:=by simp;omega
     go_wp2;go_ret;exact⟨i11,rfl,by omega,by omega,yH.out _ hFs.out⟩
theorem CA(H:Srt c t w0 g n f F sb lb lt l0)(a b p:Nat)(w:World)(hw:BG c t g l0 w0 w)(hab:a+12<b)(hb:b<=n)(hpn:p<n):Calls prog 235 #[.agg #[.func (.func F) #[] lb,.func (.func f) #[] sb],.int .i64 (a:Int),.int .i64 (b:Int),.int .i64 (p:Int)] w fun e w'=>∃(k:Nat) (z:Bool),e= .returned (.tuple #[.int .i64 (k:Int),.bool z])/\a<=k/\k<b/\BG c t g l0 w w':=by
 have HH:=AA H;have hgw:g<w.heap.size:=hw.glt;obtain⟨B,hB⟩:=ZH (w.alloc (.cells #[.func (.func F) #[] lb,.func (.func f) #[] sb] 190));have h0B:BG c t g l0 w0 B:=by rw[hB];exact hw.alloc _
 have hBB:BG c t g l0 B B:=h0B.self;have hBx:Blk B w.heap.size 190 #[.func (.func F) #[] lb,.func (.func f) #[] sb]:=by rw[hB];exact Blk.new _ _ _
 have yH:Hid (∀V,BG c t g l0 B V->BG c t g l0 w V):=fun V h=>by rw[hB]at h;exact h.off
 have HB0:=AA h0B;have HC:Hid (∀V,BG c t g l0 B V->V.cell? ⟨w.heap.size,0,none⟩=some (.func (.func F) #[] lb)/\V.cell? ⟨w.heap.size,1,none⟩=some (.func (.func f) #[] sb)):=fun V h=>⟨(h.box hBx (by omega)).cell 0,(h.box hBx (by omega)).cell 1⟩
 have eg:=H.eg;have hn6:=H.small;have HW:=AA hB;have HBB:=AA hBB;clear hw hB h0B hBB hBx H;go_enter func235,ntmps235;go_upto_region 1 with fail
 simp only[<-HW.out];obtain⟨c0,c1⟩:=HC.out _ HBB.out;obtain⟨w2,xN,hp⟩:=HH.out.swap HB0.out HBB.out (a) (p) (by omega) (by omega) (by omega);try push_cast at xN
 have HP2:=AA hp;obtain⟨c0',c1'⟩:=HC.out _ hp;clear hp;go_upto_region 3 with fail
 go_wp2
 go_loopw [10] (fun iv wr=>∃zz:Nat,iv= .int .i64 (zz:Int)/\(a+1)<=zz/\zz<=b/\zz<=((b-1))+2/\Hid (BG c t g l0 B wr)) (fun iv _=>b-(intOf iv).toNat)
 case atStart=>exact⟨(a+1),by go_num,by omega,by omega,by omega,HP2⟩
 case round=>
  obtain⟨i21,rfl,hi21,hi21',hi21'',hEr⟩:=hrel;obtain⟨c0,c1⟩:=HC.out _ hEr.out;by_cases hc:i21<=(b-1)
  ·have dc:decide ((i21:Int)<=((b:Int)-1))=true:=by simp;omega
   go_wp2_with fail
   have hl:=HH.out.less HB0.out hEr.out (i21) (a) (by omega) (by omega);try push_cast at hl
   refine hl.mono ?_;clear hl;rintro en w23 ⟨k23,rfl,hp⟩;have hFt:=AA hp;obtain⟨c0,c1⟩:=HC.out _ hp;clear hp;cases k23 with
   |true=>
    go_wp2;go_roundw
    case rel=>exact⟨i21+1,by go_num,by omega,by omega,by omega,hFt⟩
    case measure=>simp[intOf];omega
   |false=>
    go_wp2
    go_loopw [11] (fun iv wr=>∃zz:Nat,iv= .int .i64 (zz:Int)/\a<=zz/\zz<=(b-1)/\i21<=zz+2/\Hid (BG c t g l0 B wr)) (fun iv _=>(intOf iv).toNat)
    case atStart=>exact⟨(b-1),by go_num,by omega,by omega,by omega,hFt⟩
    case round=>
     obtain⟨j24,rfl,hj24,hj24',hj24'',hEs⟩:=hrel;obtain⟨c0,c1⟩:=HC.out _ hEs.out;by_cases hc:i21<=j24
     ·have dc:decide ((i21:Int)<=(j24:Int))=true:=by simp;omega
      go_wp2_with fail
      have hl:=HH.out.less HB0.out hEs.out (j24) (a) (by omega) (by omega);try push_cast at hl
      refine hl.mono ?_;clear hl;rintro en w26 ⟨k26,rfl,hp⟩;have hFu:=AA hp;obtain⟨c0,c1⟩:=HC.out _ hp;clear hp;cases k26 with
      |false=>
       go_wp2;go_roundw
       case rel=>exact⟨j24-1,by go_num,by omega,by omega,by omega,hFu⟩
       case measure=>simp[intOf];omega
      |true=>
       have dc2:=ZL (show i21<=j24 by omega)
       have dc3:decide (j24<i21)=false:=by simp;omega
       obtain⟨w27,xN,hp⟩:=HH.out.swap HB0.out hFu.out (i21) (j24) (by omega) (by omega) (by omega);try push_cast at xN
       have HP27:=AA hp;obtain⟨c0',c1'⟩:=HC.out _ hp;clear hp;go_wp2
       go_loopw [10,11] (fun iv jv wr=>∃i j:Nat,iv= .int .i64 (i:Int)/\jv= .int .i64 (j:Int)/\a+1<=i/\i<=b/\a<=j/\j+1<=b/\i<=j+2/\Hid (BG c t g l0 B wr)) (fun iv jv _=>(intOf jv).toNat+(b-(intOf iv).toNat))
       case atStart=>exact⟨i21+1,j24-1,by go_num,by go_num,by omega,by omega,by omega,by omega,by omega,HP27⟩
       case round=>
        obtain⟨i,j,rfl,rfl,hi,hib,haj,hjb,hij,HP⟩:=hrel;go_wp2
        go_loopw [10] (fun iv wr=>∃zz:Nat,iv= .int .i64 (zz:Int)/\i<=zz/\zz<=b/\zz<=(j)+2/\Hid (BG c t g l0 B wr)) (fun iv _=>b-(intOf iv).toNat)
        case atStart=>exact⟨i,by go_num,by omega,by omega,by omega,HP⟩
        case round=>
         obtain⟨i28,rfl,hi28,hi28',hi28'',hEt⟩:=hrel;obtain⟨c0,c1⟩:=HC.out _ hEt.out;by_cases hc:i28<=j
         ·have dc:decide ((i28:Int)<=(j:Int))=true:=by simp;omega
          go_wp2_with fail
          have hl:=HH.out.less HB0.out hEt.out (i28) (a) (by omega) (by omega);try push_cast at hl
          refine hl.mono ?_;clear hl;rintro en w30 ⟨k30,rfl,hp⟩;have hFv:=AA hp;obtain⟨c0,c1⟩:=HC.out _ hp;clear hp;cases k30 with
          |true=>
           go_wp2;go_roundw
           case rel=>exact⟨i28+1,by go_num,by omega,by omega,by omega,hFv⟩
           case measure=>simp[intOf];omega
          |false=>
           go_wp2
           go_loopw [11] (fun iv wr=>∃zz:Nat,iv= .int .i64 (zz:Int)/\a<=zz/\zz<=j/\i28<=zz+2/\Hid (BG c t g l0 B wr)) (fun iv _=>(intOf iv).toNat)
           case atStart=>exact⟨j,by go_num,by omega,by omega,by omega,hFv⟩
           case round=>
            obtain⟨j31,rfl,hj31,hj31',hj31'',hEu⟩:=hrel;obtain⟨c0,c1⟩:=HC.out _ hEu.out;by_cases hc:i28<=j31
            ·have dc:decide ((i28:Int)<=(j31:Int))=true:=by simp;omega
             go_wp2_with fail
             have hl:=HH.out.less HB0.out hEu.out (j31) (a) (by omega) (by omega);try push_cast at hl
             refine hl.mono ?_;clear hl;rintro en w33 ⟨k33,rfl,hp⟩;have hFw:=AA hp;obtain⟨c0,c1⟩:=HC.out _ hp;clear hp;cases k33 with
             |false=>
              go_wp2;go_roundw
              case rel=>exact⟨j31-1,by go_num,by omega,by omega,by omega,hFw⟩
              case measure=>simp[intOf];omega
             |true=>
              have dc2:=ZL (show i28<=j31 by omega)
              have dc3:decide (j31<i28)=false:=by simp;omega
              obtain⟨w34,xN,hp⟩:=HH.out.swap HB0.out hFw.out (i28) (j31) (by omega) (by omega) (by omega);try push_cast at xN
              have HP34:=AA hp;obtain⟨c0',c1'⟩:=HC.out _ hp;clear hp;go_wp2;go_roundw
              case rel=>exact⟨i28+1,j31-1,by go_num,by go_num,by omega,by omega,by omega,by omega,by omega,HP34⟩
              case measure=>simp[intOf];omega
            ·have dc:decide ((i28:Int)<=(j31:Int))=false:=by simp;omega
             have dc2:=ZK (show j31<i28 by omega)
             have dc3:decide (j31<i28)=true:=by simp;omega
             obtain⟨w35,xN,hp⟩:=HH.out.swap HB0.out hEu.out (j31) (a) (by omega) (by omega) (by omega);try push_cast at xN
             have HP35:=AA hp;obtain⟨c0',c1'⟩:=HC.out _ hp;clear hp;go_wp2;go_ret2;exact⟨j31,false,rfl,by omega,by omega,yH.out _ HP35.out⟩
         ·have dc:decide ((i28:Int)<=(j:Int))=false:=by simp;omega
          go_wp2
          go_loopw [11] (fun iv wr=>∃zz:Nat,iv= .int .i64 (zz:Int)/\a<=zz/\zz<=j/\i28<=zz+2/\Hid (BG c t g l0 B wr)) (fun iv _=>(intOf iv).toNat)
          case atStart=>exact⟨j,by go_num,by omega,by omega,by omega,hEt⟩
          case round=>
           obtain⟨j36,rfl,hj36,hj36',hj36'',hFx⟩:=hrel;obtain⟨c0,c1⟩:=HC.out _ hFx.out;have hc:¬i28<=j36:=by omega
           have dc:decide ((i28:Int)<=(j36:Int))=false:=by simp;omega
           have dc2:=ZK (show j36<i28 by omega)
           have dc3:decide (j36<i28)=true:=by simp;omega
           obtain⟨w39,xN,hp⟩:=HH.out.swap HB0.out hFx.out (j36) (a) (by omega) (by omega) (by omega);try push_cast at xN
           have HP39:=AA hp;obtain⟨c0',c1'⟩:=HC.out _ hp;clear hp;go_wp2;go_ret2;exact⟨j36,false,rfl,by omega,by omega,yH.out _ HP39.out⟩
     ·have dc:decide ((i21:Int)<=(j24:Int))=false:=by simp;omega
      have dc2:=ZK (show j24<i21 by omega)
      have dc3:decide (j24<i21)=true:=by simp;omega
      obtain⟨w40,xN,hp⟩:=HH.out.swap HB0.out hEs.out (j24) (a) (by omega) (by omega) (by omega);try push_cast at xN
      have HP40:=AA hp;obtain⟨c0',c1'⟩:=HC.out _ hp;clear hp;go_wp2;go_ret2;exact⟨j24,true,rfl,by omega,by omega,yH.out _ HP40.out⟩
  ·have dc:decide ((i21:Int)<=((b:Int)-1))=false:=by simp;omega
   go_wp2
   go_loopw [11] (fun iv wr=>∃zz:Nat,iv= .int .i64 (zz:Int)/\a<=zz/\zz<=(b-1)/\i21<=zz+2/\Hid (BG c t g l0 B wr)) (fun iv _=>(intOf iv).toNat)
   case atStart=>exact⟨(b-1),by go_num,by omega,by omega,by omega,hEr⟩
   case round=>
    obtain⟨j41,rfl,hj41,hj41',hj41'',hFy⟩:=hrel;obtain⟨c0,c1⟩:=HC.out _ hFy.out;have hc:¬i21<=j41:=by omega
    have dc:decide ((i21:Int)<=(j41:Int))=false:=by simp;omega
    have dc2:=ZK (show j41<i21 by omega)
    have dc3:decide (j41<i21)=true:=by simp;omega
    obtain⟨w44,xN,hp⟩:=HH.out.swap HB0.out hFy.out (j41) (a) (by omega) (by omega) (by omega);try push_cast at xN
    have HP44:=AA hp;obtain⟨c0',c1'⟩:=HC.out _ hp;clear hp;go_wp2;go_ret2;exact⟨j41,true,rfl,by omega,by omega,yH.out _ HP44.out⟩
end
section
variable {α:Type}{c:Be α}{t:TypeId}{w0:World}{g n f F:Nat}{sb lb:Array Value}{lt:α->α->Bool}{l0:List α}
theorem BG.gltW{A B:World}(h:BG c t g l0 A B):g<B.heap.size:=by
 obtain⟨l,h1,_⟩:=h;exact h1.blk.lt
theorem J9(H:Srt c t w0 g n f F sb lb lt l0)(HB:Wr c t w0 g n f F sb lb l0):∀(m A Z L0:Nat) (w:World),BG c t g l0 w0 w->A<=Z->Z<=n->Z-A<=m->L0<=1000000->Calls prog 169 #[.agg #[.func (.func F) #[] lb,.func (.func f) #[] sb],.int .i64 (A:Int),.int .i64 (Z:Int),.int .i64 (L0:Int)] w fun e w'=>e= .returned (.tuple #[])/\BG c t g l0 w w':=by
 intro m
 induction m using Nat.strongRecOn with
 |_ m ih=>
 intro A Z L0 w hw hAZ hZn hZm hL0;have HIH:Hid (∀(a b L:Nat) (w:World),BG c t g l0 w0 w->a<=b->b<=n->b-a<m->L<=1000000->Calls prog 169 #[.agg #[.func (.func F) #[] lb,.func (.func f) #[] sb],.int .i64 (a:Int),.int .i64 (b:Int),.int .i64 (L:Int)] w fun e w'=>e= .returned (.tuple #[])/\BG c t g l0 w w'):=
  fun a b L w h1 h2 h3 h4 h5=>ih (b-a) h4 a b L w h1 h2 h3 (AB _) h5
 have HBr:=AA HB;clear ih HB;have HH:=AA H;have hgw:g<w.heap.size:=hw.glt;obtain⟨B,hB⟩:=ZH (w.alloc (.cells #[.func (.func F) #[] lb,.func (.func f) #[] sb] 190));have h0B:BG c t g l0 w0 B:=by rw[hB];exact hw.alloc _
 have hBB:BG c t g l0 B B:=h0B.self;have hBx:Blk B w.heap.size 190 #[.func (.func F) #[] lb,.func (.func f) #[] sb]:=by rw[hB];exact Blk.new _ _ _
 have yH:Hid (∀V,BG c t g l0 B V->BG c t g l0 w V):=fun V h=>by rw[hB]at h;exact h.off
 have HB0:=AA h0B;have HC:Hid (∀V,BG c t g l0 B V->V.cell? ⟨w.heap.size,0,none⟩=some (.func (.func F) #[] lb)/\V.cell? ⟨w.heap.size,1,none⟩=some (.func (.func f) #[] sb)):=fun V h=>⟨(h.box hBx (by omega)).cell 0,(h.box hBx (by omega)).cell 1⟩
 have eg:=H.eg;have hn6:=H.small;have HW:=AA hB;have HBB:=AA hBB;clear hw hB h0B hBB hBx H;go_enter func169,ntmps169;go_upto_region 1 with fail
 simp only[<-HW.out];go_upto_region 3 with fail
 go_loopw [1,2,3,8,9] (fun av bv lv xv yv wr=>∃(a b L:Nat) (wb wp:Bool),av= .int .i64 (a:Int)/\bv= .int .i64 (b:Int)/\lv= .int .i64 (L:Int)/\xv= .bool wb/\yv= .bool wp/\a<=b/\b<=n/\b-a<=m/\L<=1000000/\Hid (BG c t g l0 B wr)) (fun av bv _ _ _ _=>(intOf bv).toNat-(intOf av).toNat)
 case atStart=>exact⟨A,Z,L0,true,true,rfl,rfl,rfl,rfl,rfl,hAZ,hZn,hZm,hL0,HBB⟩
 case round=>
  clear hAZ hZn hZm hL0;obtain⟨a,b,L,wb,wp,rfl,rfl,rfl,rfl,rfl,hab,hbn,hbm,hL,HP⟩:=hrel;obtain⟨c0,c1⟩:=HC.out _ HP.out;by_cases h12:b<=a+12
  ·have d12:decide ((b:Int)-(a:Int)<=12)=true:=by simp;omega
   go_wp2_with (go_at_call 179;refine(Oz HH.out a b _ (HB0.out.trans HP.out) (by omega) (by omega)).mono ?_;rintro en w2 ⟨rfl,hp⟩;have HP2:=AA (HP.out.trans hp);obtain⟨c0,c1⟩:=HC.out _ (HP.out.trans hp);clear hp)
   first
    |go_end0
    |refine bodyPost_ret (results_none rfl _ _ _) rfl ?_
   exact⟨rfl,yH.out _ HP2.out⟩
  ·have d12:decide ((b:Int)-(a:Int)<=12)=false:=by simp;omega
   rcases Nat.eq_zero_or_pos L with hL0|hL0
   ·subst hL0;go_wp2_with (go_at_call 229;refine(NK HH.out a b _ (HB0.out.trans HP.out) (by omega) (by omega)).mono ?_;rintro en w2 ⟨rfl,hp⟩;have HP2:=AA (HP.out.trans hp);obtain⟨c0,c1⟩:=HC.out _ (HP.out.trans hp);clear hp)
    first
     |go_end0
     |refine bodyPost_ret (results_none rfl _ _ _) rfl ?_
    exact⟨rfl,yH.out _ HP2.out⟩
   ·have e0:((L:Int)==0)=false:=by simp;omega
    cases wb with
    |false=>
     obtain⟨L,rfl⟩:∃L',L=L'+1:=⟨L-1,by omega⟩;go_upto_region 10 with(go_at_call 230;refine(HBr.out a b _ (HB0.out.trans HP.out) (by omega) (by omega)).mono ?_;rintro en w2 ⟨rfl,hp⟩;have HP2:=AA (HP.out.trans hp);obtain⟨c0,c1⟩:=HC.out _ (HP.out.trans hp);clear hp)
     go_upto_region 12 with(go_at_call 231;refine(MZ HH.out a b _ (HB0.out.trans HP2.out) (HP2.out.gltW) (by omega) (by omega)).mono ?_;rintro en w101 ⟨x,h,rfl,hx,hp⟩;have zf:=AA (HP2.out.trans hp);obtain⟨c0,c1⟩:=HC.out _ (HP2.out.trans hp);clear hp)
     by_cases h2:h=2
     ·subst h2;obtain⟨y,hy⟩:=ZH ((b-1)-(x-a));have hyI:(b:Int)-1-((x:Int)-(a:Int))=(y:Int):=by omega
      have hyb:a<=y/\y<b:=by omega
      clear hy;go_upto_region 14 with(go_at_call 232;refine(Fi HH.out a b _ (HB0.out.trans zf.out) (by omega) (by omega)).mono ?_;rintro en w102 ⟨rfl,hp⟩;have hCM:=AA (zf.out.trans hp);obtain⟨c0,c1⟩:=HC.out _ (zf.out.trans hp);clear hp)
      go_upto_region 18 with fail
      by_cases ha:0<a
      ·have da:decide (0<(a:Int))=true:=by simp;omega
       go_wp2_with fail
       have hl:=HH.out.less HB0.out hCM.out (a-1) (y) (by omega) (by omega);try push_cast at hl
       rw[show((a-1:Nat):Int)=(a:Int)-1 from by omega]at hl;refine hl.mono ?_;clear hl;rintro en w103 ⟨k103,rfl,hp⟩;have hAG:=AA hp;obtain⟨c0,c1⟩:=HC.out _ hp;clear hp;cases k103 with
       |true=>
        go_upto_region 22 with(go_at_call 235;refine(CA HH.out a b y _ (HB0.out.trans hAG.out) (by omega) (by omega) (by omega)).mono ?_;rintro en w105 ⟨k105,z105,rfl,hk1,hk2,hp⟩;have hAH:=AA (hAG.out.trans hp);obtain⟨c0,c1⟩:=HC.out _ (hAG.out.trans hp);clear hp)
        by_cases hlr:k105-a<b-k105
        ·have dlr:decide ((k105:Int)-(a:Int)<(b:Int)-(k105:Int))=true:=by simp;omega
         go_wp2_with (go_at_call 169;refine(HIH.out a k105 L _ (HB0.out.trans hAH.out) (by omega) (by omega) (by omega) (by omega)).mono ?_;rintro en w106 ⟨rfl,hp⟩;have hFz:=AA (hAH.out.trans hp);obtain⟨c0,c1⟩:=HC.out _ (hAH.out.trans hp);clear hp)
         go_roundw
         case rel=>exact⟨k105+1,b,L,_,_,by go_num,by go_num,rfl,rfl,rfl,by omega,by omega,by omega,by omega,hFz⟩
         case measure=>simp[intOf];omega
        ·have dlr:decide ((k105:Int)-(a:Int)<(b:Int)-(k105:Int))=false:=by simp;omega
         have hih:=HIH.out (k105+1) b L
         push_cast at hih
         have HI2:=AA hih;clear hih;go_wp2_with (go_at_call 169;refine(HI2.out _ (HB0.out.trans hAH.out) (by omega) (by omega) (by omega) (by omega)).mono ?_;rintro en w107 ⟨rfl,hp⟩;have hF0:=AA (hAH.out.trans hp);obtain⟨c0,c1⟩:=HC.out _ (hAH.out.trans hp);clear hp)
         go_roundw
         case rel=>exact⟨a,k105,L,_,_,by go_num,by go_num,rfl,rfl,rfl,by omega,by omega,by omega,by omega,hF0⟩
         case measure=>simp[intOf];omega
       |false=>
        go_wp2_with (go_at_call 234;refine(C2 HH.out a b y _ (HB0.out.trans hAG.out) (by omega) (by omega) (by omega)).mono ?_;rintro en w104 ⟨k104,rfl,hk1,hk2,hp⟩;have hF5:=AA (hAG.out.trans hp);obtain⟨c0,c1⟩:=HC.out _ (hAG.out.trans hp);clear hp)
        go_roundw
        case rel=>exact⟨k104,b,L,_,_,by go_num,by go_num,rfl,rfl,rfl,by omega,by omega,by omega,by omega,hF5⟩
        case measure=>simp[intOf];omega
      ·have da:decide (0<(a:Int))=false:=by simp;omega
       go_upto_region 22 with(go_at_call 235;refine(CA HH.out a b y _ (HB0.out.trans hCM.out) (by omega) (by omega) (by omega)).mono ?_;rintro en w108 ⟨k108,z108,rfl,hk1,hk2,hp⟩;have hAI:=AA (hCM.out.trans hp);obtain⟨c0,c1⟩:=HC.out _ (hCM.out.trans hp);clear hp)
       by_cases hlr:k108-a<b-k108
       ·have dlr:decide ((k108:Int)-(a:Int)<(b:Int)-(k108:Int))=true:=by simp;omega
        go_wp2_with (go_at_call 169;refine(HIH.out a k108 L _ (HB0.out.trans hAI.out) (by omega) (by omega) (by omega) (by omega)).mono ?_;rintro en w109 ⟨rfl,hp⟩;have hF6:=AA (hAI.out.trans hp);obtain⟨c0,c1⟩:=HC.out _ (hAI.out.trans hp);clear hp)
        go_roundw
        case rel=>exact⟨k108+1,b,L,_,_,by go_num,by go_num,rfl,rfl,rfl,by omega,by omega,by omega,by omega,hF6⟩
        case measure=>simp[intOf];omega
       ·have dlr:decide ((k108:Int)-(a:Int)<(b:Int)-(k108:Int))=false:=by simp;omega
        have hih:=HIH.out (k108+1) b L
        push_cast at hih
        have HI2:=AA hih;clear hih;go_wp2_with (go_at_call 169;refine(HI2.out _ (HB0.out.trans hAI.out) (by omega) (by omega) (by omega) (by omega)).mono ?_;rintro en w110 ⟨rfl,hp⟩;have hF8:=AA (hAI.out.trans hp);obtain⟨c0,c1⟩:=HC.out _ (hAI.out.trans hp);clear hp)
        go_roundw
        case rel=>exact⟨a,k108,L,_,_,by go_num,by go_num,rfl,rfl,rfl,by omega,by omega,by omega,by omega,hF8⟩
        case measure=>simp[intOf];omega
     ·have e2:(h==2)=false:=by simp[h2]
      go_upto_region 18 with fail
      by_cases ha:0<a
      ·have da:decide (0<(a:Int))=true:=by simp;omega
       go_wp2_with fail
       have hl:=HH.out.less HB0.out zf.out (a-1) (x) (by omega) (by omega);try push_cast at hl
       rw[show((a-1:Nat):Int)=(a:Int)-1 from by omega]at hl;refine hl.mono ?_;clear hl;rintro en w111 ⟨k111,rfl,hp⟩;have hAJ:=AA hp;obtain⟨c0,c1⟩:=HC.out _ hp;clear hp;cases k111 with
       |true=>
        go_upto_region 22 with(go_at_call 235;refine(CA HH.out a b x _ (HB0.out.trans hAJ.out) (by omega) (by omega) (by omega)).mono ?_;rintro en w113 ⟨k113,z113,rfl,hk1,hk2,hp⟩;have hAK:=AA (hAJ.out.trans hp);obtain⟨c0,c1⟩:=HC.out _ (hAJ.out.trans hp);clear hp)
        by_cases hlr:k113-a<b-k113
        ·have dlr:decide ((k113:Int)-(a:Int)<(b:Int)-(k113:Int))=true:=by simp;omega
         go_wp2_with (go_at_call 169;refine(HIH.out a k113 L _ (HB0.out.trans hAK.out) (by omega) (by omega) (by omega) (by omega)).mono ?_;rintro en w114 ⟨rfl,hp⟩;have hF9:=AA (hAK.out.trans hp);obtain⟨c0,c1⟩:=HC.out _ (hAK.out.trans hp);clear hp)
         go_roundw
         case rel=>exact⟨k113+1,b,L,_,_,by go_num,by go_num,rfl,rfl,rfl,by omega,by omega,by omega,by omega,hF9⟩
         case measure=>simp[intOf];omega
        ·have dlr:decide ((k113:Int)-(a:Int)<(b:Int)-(k113:Int))=false:=by simp;omega
         have hih:=HIH.out (k113+1) b L
         push_cast at hih
         have HI2:=AA hih;clear hih;go_wp2_with (go_at_call 169;refine(HI2.out _ (HB0.out.trans hAK.out) (by omega) (by omega) (by omega) (by omega)).mono ?_;rintro en w115 ⟨rfl,hp⟩;have hGA:=AA (hAK.out.trans hp);obtain⟨c0,c1⟩:=HC.out _ (hAK.out.trans hp);clear hp)
         go_roundw
         case rel=>exact⟨a,k113,L,_,_,by go_num,by go_num,rfl,rfl,rfl,by omega,by omega,by omega,by omega,hGA⟩
         case measure=>simp[intOf];omega
       |false=>
        go_wp2_with (go_at_call 234;refine(C2 HH.out a b x _ (HB0.out.trans hAJ.out) (by omega) (by omega) (by omega)).mono ?_;rintro en w112 ⟨k112,rfl,hk1,hk2,hp⟩;have hGB:=AA (hAJ.out.trans hp);obtain⟨c0,c1⟩:=HC.out _ (hAJ.out.trans hp);clear hp)
        go_roundw
        case rel=>exact⟨k112,b,L,_,_,by go_num,by go_num,rfl,rfl,rfl,by omega,by omega,by omega,by omega,hGB⟩
        case measure=>simp[intOf];omega
      ·have da:decide (0<(a:Int))=false:=by simp;omega
       go_upto_region 22 with(go_at_call 235;refine(CA HH.out a b x _ (HB0.out.trans zf.out) (by omega) (by omega) (by omega)).mono ?_;rintro en w116 ⟨k116,z116,rfl,hk1,hk2,hp⟩;have hAL:=AA (zf.out.trans hp);obtain⟨c0,c1⟩:=HC.out _ (zf.out.trans hp);clear hp)
       by_cases hlr:k116-a<b-k116
       ·have dlr:decide ((k116:Int)-(a:Int)<(b:Int)-(k116:Int))=true:=by simp;omega
        go_wp2_with (go_at_call 169;refine(HIH.out a k116 L _ (HB0.out.trans hAL.out) (by omega) (by omega) (by omega) (by omega)).mono ?_;rintro en w117 ⟨rfl,hp⟩;have hGC:=AA (hAL.out.trans hp);obtain⟨c0,c1⟩:=HC.out _ (hAL.out.trans hp);clear hp)
        go_roundw
        case rel=>exact⟨k116+1,b,L,_,_,by go_num,by go_num,rfl,rfl,rfl,by omega,by omega,by omega,by omega,hGC⟩
        case measure=>simp[intOf];omega
       ·have dlr:decide ((k116:Int)-(a:Int)<(b:Int)-(k116:Int))=false:=by simp;omega
        have hih:=HIH.out (k116+1) b L
        push_cast at hih
        have HI2:=AA hih;clear hih;go_wp2_with (go_at_call 169;refine(HI2.out _ (HB0.out.trans hAL.out) (by omega) (by omega) (by omega) (by omega)).mono ?_;rintro en w118 ⟨rfl,hp⟩;have hGD:=AA (hAL.out.trans hp);obtain⟨c0,c1⟩:=HC.out _ (hAL.out.trans hp);clear hp)
        go_roundw
        case rel=>exact⟨a,k116,L,_,_,by go_num,by go_num,rfl,rfl,rfl,by omega,by omega,by omega,by omega,hGD⟩
        case measure=>simp[intOf];omega
    |true=>
     go_upto_region 12 with(go_at_call 231;refine(MZ HH.out a b _ (HB0.out.trans HP.out) (HP.out.gltW) (by omega) (by omega)).mono ?_;rintro en w119 ⟨x,h,rfl,hx,hp⟩;have yL:=AA (HP.out.trans hp);obtain⟨c0,c1⟩:=HC.out _ (HP.out.trans hp);clear hp)
     by_cases h2:h=2
     ·subst h2;obtain⟨y,hy⟩:=ZH ((b-1)-(x-a));have hyI:(b:Int)-1-((x:Int)-(a:Int))=(y:Int):=by omega
      have hyb:a<=y/\y<b:=by omega
      clear hy;go_upto_region 14 with(go_at_call 232;refine(Fi HH.out a b _ (HB0.out.trans yL.out) (by omega) (by omega)).mono ?_;rintro en w120 ⟨rfl,hp⟩;have zg:=AA (yL.out.trans hp);obtain⟨c0,c1⟩:=HC.out _ (yL.out.trans hp);clear hp)
      cases wp with
      |false=>
       go_upto_region 18 with fail
       by_cases ha:0<a
       ·have da:decide (0<(a:Int))=true:=by simp;omega
        go_wp2_with fail
        have hl:=HH.out.less HB0.out zg.out (a-1) (y) (by omega) (by omega);try push_cast at hl
        rw[show((a-1:Nat):Int)=(a:Int)-1 from by omega]at hl;refine hl.mono ?_;clear hl;rintro en w122 ⟨k122,rfl,hp⟩;have hAM:=AA hp;obtain⟨c0,c1⟩:=HC.out _ hp;clear hp;cases k122 with
        |true=>
         go_upto_region 22 with(go_at_call 235;refine(CA HH.out a b y _ (HB0.out.trans hAM.out) (by omega) (by omega) (by omega)).mono ?_;rintro en w124 ⟨k124,z124,rfl,hk1,hk2,hp⟩;have hAN:=AA (hAM.out.trans hp);obtain⟨c0,c1⟩:=HC.out _ (hAM.out.trans hp);clear hp)
         by_cases hlr:k124-a<b-k124
         ·have dlr:decide ((k124:Int)-(a:Int)<(b:Int)-(k124:Int))=true:=by simp;omega
          go_wp2_with (go_at_call 169;refine(HIH.out a k124 L _ (HB0.out.trans hAN.out) (by omega) (by omega) (by omega) (by omega)).mono ?_;rintro en w125 ⟨rfl,hp⟩;have hGE:=AA (hAN.out.trans hp);obtain⟨c0,c1⟩:=HC.out _ (hAN.out.trans hp);clear hp)
          go_roundw
          case rel=>exact⟨k124+1,b,L,_,_,by go_num,by go_num,rfl,rfl,rfl,by omega,by omega,by omega,by omega,hGE⟩
          case measure=>simp[intOf];omega
         ·have dlr:decide ((k124:Int)-(a:Int)<(b:Int)-(k124:Int))=false:=by simp;omega
          have hih:=HIH.out (k124+1) b L
          push_cast at hih
          have HI2:=AA hih;clear hih;go_wp2_with (go_at_call 169;refine(HI2.out _ (HB0.out.trans hAN.out) (by omega) (by omega) (by omega) (by omega)).mono ?_;rintro en w126 ⟨rfl,hp⟩;have hGF:=AA (hAN.out.trans hp);obtain⟨c0,c1⟩:=HC.out _ (hAN.out.trans hp);clear hp)
          go_roundw
          case rel=>exact⟨a,k124,L,_,_,by go_num,by go_num,rfl,rfl,rfl,by omega,by omega,by omega,by omega,hGF⟩
          case measure=>simp[intOf];omega
        |false=>
         go_wp2_with (go_at_call 234;refine(C2 HH.out a b y _ (HB0.out.trans hAM.out) (by omega) (by omega) (by omega)).mono ?_;rintro en w123 ⟨k123,rfl,hk1,hk2,hp⟩;have hGG:=AA (hAM.out.trans hp);obtain⟨c0,c1⟩:=HC.out _ (hAM.out.trans hp);clear hp)
         go_roundw
         case rel=>exact⟨k123,b,L,_,_,by go_num,by go_num,rfl,rfl,rfl,by omega,by omega,by omega,by omega,hGG⟩
         case measure=>simp[intOf];omega
       ·have da:decide (0<(a:Int))=false:=by simp;omega
        go_upto_region 22 with(go_at_call 235;refine(CA HH.out a b y _ (HB0.out.trans zg.out) (by omega) (by omega) (by omega)).mono ?_;rintro en w127 ⟨k127,z127,rfl,hk1,hk2,hp⟩;have hAO:=AA (zg.out.trans hp);obtain⟨c0,c1⟩:=HC.out _ (zg.out.trans hp);clear hp)
        by_cases hlr:k127-a<b-k127
        ·have dlr:decide ((k127:Int)-(a:Int)<(b:Int)-(k127:Int))=true:=by simp;omega
         go_wp2_with (go_at_call 169;refine(HIH.out a k127 L _ (HB0.out.trans hAO.out) (by omega) (by omega) (by omega) (by omega)).mono ?_;rintro en w128 ⟨rfl,hp⟩;have hGH:=AA (hAO.out.trans hp);obtain⟨c0,c1⟩:=HC.out _ (hAO.out.trans hp);clear hp)
         go_roundw
         case rel=>exact⟨k127+1,b,L,_,_,by go_num,by go_num,rfl,rfl,rfl,by omega,by omega,by omega,by omega,hGH⟩
         case measure=>simp[intOf];omega
        ·have dlr:decide ((k127:Int)-(a:Int)<(b:Int)-(k127:Int))=false:=by simp;omega
         have hih:=HIH.out (k127+1) b L
         push_cast at hih
         have HI2:=AA hih;clear hih;go_wp2_with (go_at_call 169;refine(HI2.out _ (HB0.out.trans hAO.out) (by omega) (by omega) (by omega) (by omega)).mono ?_;rintro en w129 ⟨rfl,hp⟩;have hGI:=AA (hAO.out.trans hp);obtain⟨c0,c1⟩:=HC.out _ (hAO.out.trans hp);clear hp)
         go_roundw
         case rel=>exact⟨a,k127,L,_,_,by go_num,by go_num,rfl,rfl,rfl,by omega,by omega,by omega,by omega,hGI⟩
         case measure=>simp[intOf];omega
      |true=>
       go_wp2_with fail
       refine(Jd HH.out a b _ (HB0.out.trans zg.out) (by omega) (by omega)).mono ?_;rintro en w121 ⟨k121,rfl,hp⟩;have hAq:=AA (zg.out.trans hp);obtain⟨c0,c1⟩:=HC.out _ (zg.out.trans hp);clear hp;cases k121
       ·go_upto_region 18 with fail
        by_cases ha:0<a
        ·have da:decide (0<(a:Int))=true:=by simp;omega
         go_wp2_with fail
         have hl:=HH.out.less HB0.out hAq.out (a-1) (y) (by omega) (by omega);try push_cast at hl
         rw[show((a-1:Nat):Int)=(a:Int)-1 from by omega]at hl;refine hl.mono ?_;clear hl;rintro en w130 ⟨k130,rfl,hp⟩;have hAP:=AA hp;obtain⟨c0,c1⟩:=HC.out _ hp;clear hp;cases k130 with
         |true=>
          go_upto_region 22 with(go_at_call 235;refine(CA HH.out a b y _ (HB0.out.trans hAP.out) (by omega) (by omega) (by omega)).mono ?_;rintro en w132 ⟨k132,z132,rfl,hk1,hk2,hp⟩;have hAQ:=AA (hAP.out.trans hp);obtain⟨c0,c1⟩:=HC.out _ (hAP.out.trans hp);clear hp)
          by_cases hlr:k132-a<b-k132
          ·have dlr:decide ((k132:Int)-(a:Int)<(b:Int)-(k132:Int))=true:=by simp;omega
           go_wp2_with (go_at_call 169;refine(HIH.out a k132 L _ (HB0.out.trans hAQ.out) (by omega) (by omega) (by omega) (by omega)).mono ?_;rintro en w133 ⟨rfl,hp⟩;have hGJ:=AA (hAQ.out.trans hp);obtain⟨c0,c1⟩:=HC.out _ (hAQ.out.trans hp);clear hp)
           go_roundw
           case rel=>exact⟨k132+1,b,L,_,_,by go_num,by go_num,rfl,rfl,rfl,by omega,by omega,by omega,by omega,hGJ⟩
           case measure=>simp[intOf];omega
          ·have dlr:decide ((k132:Int)-(a:Int)<(b:Int)-(k132:Int))=false:=by simp;omega
           have hih:=HIH.out (k132+1) b L
           push_cast at hih
           have HI2:=AA hih;clear hih;go_wp2_with (go_at_call 169;refine(HI2.out _ (HB0.out.trans hAQ.out) (by omega) (by omega) (by omega) (by omega)).mono ?_;rintro en w134 ⟨rfl,hp⟩;have hGK:=AA (hAQ.out.trans hp);obtain⟨c0,c1⟩:=HC.out _ (hAQ.out.trans hp);clear hp)
           go_roundw
           case rel=>exact⟨a,k132,L,_,_,by go_num,by go_num,rfl,rfl,rfl,by omega,by omega,by omega,by omega,hGK⟩
           case measure=>simp[intOf];omega
         |false=>
          go_wp2_with (go_at_call 234;refine(C2 HH.out a b y _ (HB0.out.trans hAP.out) (by omega) (by omega) (by omega)).mono ?_;rintro en w131 ⟨k131,rfl,hk1,hk2,hp⟩;have hGL:=AA (hAP.out.trans hp);obtain⟨c0,c1⟩:=HC.out _ (hAP.out.trans hp);clear hp)
          go_roundw
          case rel=>exact⟨k131,b,L,_,_,by go_num,by go_num,rfl,rfl,rfl,by omega,by omega,by omega,by omega,hGL⟩
          case measure=>simp[intOf];omega
        ·have da:decide (0<(a:Int))=false:=by simp;omega
         go_upto_region 22 with(go_at_call 235;refine(CA HH.out a b y _ (HB0.out.trans hAq.out) (by omega) (by omega) (by omega)).mono ?_;rintro en w135 ⟨k135,z135,rfl,hk1,hk2,hp⟩;have hAR:=AA (hAq.out.trans hp);obtain⟨c0,c1⟩:=HC.out _ (hAq.out.trans hp);clear hp)
         by_cases hlr:k135-a<b-k135
         ·have dlr:decide ((k135:Int)-(a:Int)<(b:Int)-(k135:Int))=true:=by simp;omega
          go_wp2_with (go_at_call 169;refine(HIH.out a k135 L _ (HB0.out.trans hAR.out) (by omega) (by omega) (by omega) (by omega)).mono ?_;rintro en w136 ⟨rfl,hp⟩;have hGM:=AA (hAR.out.trans hp);obtain⟨c0,c1⟩:=HC.out _ (hAR.out.trans hp);clear hp)
          go_roundw
          case rel=>exact⟨k135+1,b,L,_,_,by go_num,by go_num,rfl,rfl,rfl,by omega,by omega,by omega,by omega,hGM⟩
          case measure=>simp[intOf];omega
         ·have dlr:decide ((k135:Int)-(a:Int)<(b:Int)-(k135:Int))=false:=by simp;omega
          have hih:=HIH.out (k135+1) b L
          push_cast at hih
          have HI2:=AA hih;clear hih;go_wp2_with (go_at_call 169;refine(HI2.out _ (HB0.out.trans hAR.out) (by omega) (by omega) (by omega) (by omega)).mono ?_;rintro en w137 ⟨rfl,hp⟩;have hGN:=AA (hAR.out.trans hp);obtain⟨c0,c1⟩:=HC.out _ (hAR.out.trans hp);clear hp)
          go_roundw
          case rel=>exact⟨a,k135,L,_,_,by go_num,by go_num,rfl,rfl,rfl,by omega,by omega,by omega,by omega,hGN⟩
          case measure=>simp[intOf];omega
       ·go_wp2
        first
         |go_end0
         |refine bodyPost_ret (results_none rfl _ _ _) rfl ?_
        exact⟨rfl,yH.out _ hAq.out⟩
     ·have e2:(h==2)=false:=by simp[h2]
      by_cases h1:h=1
      ·subst h1;cases wp with
       |false=>
        go_upto_region 18 with fail
        by_cases ha:0<a
        ·have da:decide (0<(a:Int))=true:=by simp;omega
         go_wp2_with fail
         have hl:=HH.out.less HB0.out yL.out (a-1) (x) (by omega) (by omega);try push_cast at hl
         rw[show((a-1:Nat):Int)=(a:Int)-1 from by omega]at hl;refine hl.mono ?_;clear hl;rintro en w139 ⟨k139,rfl,hp⟩;have hAS:=AA hp;obtain⟨c0,c1⟩:=HC.out _ hp;clear hp;cases k139 with
         |true=>
          go_upto_region 22 with(go_at_call 235;refine(CA HH.out a b x _ (HB0.out.trans hAS.out) (by omega) (by omega) (by omega)).mono ?_;rintro en w141 ⟨k141,z141,rfl,hk1,hk2,hp⟩;have hAT:=AA (hAS.out.trans hp);obtain⟨c0,c1⟩:=HC.out _ (hAS.out.trans hp);clear hp)
          by_cases hlr:k141-a<b-k141
          ·have dlr:decide ((k141:Int)-(a:Int)<(b:Int)-(k141:Int))=true:=by simp;omega
           go_wp2_with (go_at_call 169;refine(HIH.out a k141 L _ (HB0.out.trans hAT.out) (by omega) (by omega) (by omega) (by omega)).mono ?_;rintro en w142 ⟨rfl,hp⟩;have hGO:=AA (hAT.out.trans hp);obtain⟨c0,c1⟩:=HC.out _ (hAT.out.trans hp);clear hp)
           go_roundw
           case rel=>exact⟨k141+1,b,L,_,_,by go_num,by go_num,rfl,rfl,rfl,by omega,by omega,by omega,by omega,hGO⟩
           case measure=>simp[intOf];omega
          ·have dlr:decide ((k141:Int)-(a:Int)<(b:Int)-(k141:Int))=false:=by simp;omega
           have hih:=HIH.out (k141+1) b L
           push_cast at hih
           have HI2:=AA hih;clear hih;go_wp2_with (go_at_call 169;refine(HI2.out _ (HB0.out.trans hAT.out) (by omega) (by omega) (by omega) (by omega)).mono ?_;rintro en w143 ⟨rfl,hp⟩;have hGP:=AA (hAT.out.trans hp);obtain⟨c0,c1⟩:=HC.out _ (hAT.out.trans hp);clear hp)
           go_roundw
           case rel=>exact⟨a,k141,L,_,_,by go_num,by go_num,rfl,rfl,rfl,by omega,by omega,by omega,by omega,hGP⟩
           case measure=>simp[intOf];omega
         |false=>
          go_wp2_with (go_at_call 234;refine(C2 HH.out a b x _ (HB0.out.trans hAS.out) (by omega) (by omega) (by omega)).mono ?_;rintro en w140 ⟨k140,rfl,hk1,hk2,hp⟩;have hGQ:=AA (hAS.out.trans hp);obtain⟨c0,c1⟩:=HC.out _ (hAS.out.trans hp);clear hp)
          go_roundw
          case rel=>exact⟨k140,b,L,_,_,by go_num,by go_num,rfl,rfl,rfl,by omega,by omega,by omega,by omega,hGQ⟩
          case measure=>simp[intOf];omega
        ·have da:decide (0<(a:Int))=false:=by simp;omega
         go_upto_region 22 with(go_at_call 235;refine(CA HH.out a b x _ (HB0.out.trans yL.out) (by omega) (by omega) (by omega)).mono ?_;rintro en w144 ⟨k144,hBU,rfl,hk1,hk2,hp⟩;have hAU:=AA (yL.out.trans hp);obtain⟨c0,c1⟩:=HC.out _ (yL.out.trans hp);clear hp)
         by_cases hlr:k144-a<b-k144
         ·have dlr:decide ((k144:Int)-(a:Int)<(b:Int)-(k144:Int))=true:=by simp;omega
          go_wp2_with (go_at_call 169;refine(HIH.out a k144 L _ (HB0.out.trans hAU.out) (by omega) (by omega) (by omega) (by omega)).mono ?_;rintro en w145 ⟨rfl,hp⟩;have hGR:=AA (hAU.out.trans hp);obtain⟨c0,c1⟩:=HC.out _ (hAU.out.trans hp);clear hp)
          go_roundw
          case rel=>exact⟨k144+1,b,L,_,_,by go_num,by go_num,rfl,rfl,rfl,by omega,by omega,by omega,by omega,hGR⟩
          case measure=>simp[intOf];omega
         ·have dlr:decide ((k144:Int)-(a:Int)<(b:Int)-(k144:Int))=false:=by simp;omega
          have hih:=HIH.out (k144+1) b L
          push_cast at hih
          have HI2:=AA hih;clear hih;go_wp2_with (go_at_call 169;refine(HI2.out _ (HB0.out.trans hAU.out) (by omega) (by omega) (by omega) (by omega)).mono ?_;rintro en w146 ⟨rfl,hp⟩;have hGS:=AA (hAU.out.trans hp);obtain⟨c0,c1⟩:=HC.out _ (hAU.out.trans hp);clear hp)
          go_roundw
          case rel=>exact⟨a,k144,L,_,_,by go_num,by go_num,rfl,rfl,rfl,by omega,by omega,by omega,by omega,hGS⟩
          case measure=>simp[intOf];omega
       |true=>
        go_wp2_with fail
        refine(Jd HH.out a b _ (HB0.out.trans yL.out) (by omega) (by omega)).mono ?_;rintro en w138 ⟨k138,rfl,hp⟩;have hAr:=AA (yL.out.trans hp);obtain⟨c0,c1⟩:=HC.out _ (yL.out.trans hp);clear hp;cases k138
        ·go_upto_region 18 with fail
         by_cases ha:0<a
         ·have da:decide (0<(a:Int))=true:=by simp;omega
          go_wp2_with fail
          have hl:=HH.out.less HB0.out hAr.out (a-1) (x) (by omega) (by omega);try push_cast at hl
          rw[show((a-1:Nat):Int)=(a:Int)-1 from by omega]at hl;refine hl.mono ?_;clear hl;rintro en w147 ⟨k147,rfl,hp⟩;have hAV:=AA hp;obtain⟨c0,c1⟩:=HC.out _ hp;clear hp;cases k147 with
          |true=>
           go_upto_region 22 with(go_at_call 235;refine(CA HH.out a b x _ (HB0.out.trans hAV.out) (by omega) (by omega) (by omega)).mono ?_;rintro en w149 ⟨k149,z149,rfl,hk1,hk2,hp⟩;have hAW:=AA (hAV.out.trans hp);obtain⟨c0,c1⟩:=HC.out _ (hAV.out.trans hp);clear hp)
           by_cases hlr:k149-a<b-k149
           ·have dlr:decide ((k149:Int)-(a:Int)<(b:Int)-(k149:Int))=true:=by simp;omega
            go_wp2_with (go_at_call 169;refine(HIH.out a k149 L _ (HB0.out.trans hAW.out) (by omega) (by omega) (by omega) (by omega)).mono ?_;rintro en w150 ⟨rfl,hp⟩;have hGT:=AA (hAW.out.trans hp);obtain⟨c0,c1⟩:=HC.out _ (hAW.out.trans hp);clear hp)
            go_roundw
            case rel=>exact⟨k149+1,b,L,_,_,by go_num,by go_num,rfl,rfl,rfl,by omega,by omega,by omega,by omega,hGT⟩
            case measure=>simp[intOf];omega
           ·have dlr:decide ((k149:Int)-(a:Int)<(b:Int)-(k149:Int))=false:=by simp;omega
            have hih:=HIH.out (k149+1) b L
            push_cast at hih
            have HI2:=AA hih;clear hih;go_wp2_with (go_at_call 169;refine(HI2.out _ (HB0.out.trans hAW.out) (by omega) (by omega) (by omega) (by omega)).mono ?_;rintro en w151 ⟨rfl,hp⟩;have hGU:=AA (hAW.out.trans hp);obtain⟨c0,c1⟩:=HC.out _ (hAW.out.trans hp);clear hp)
            go_roundw
            case rel=>exact⟨a,k149,L,_,_,by go_num,by go_num,rfl,rfl,rfl,by omega,by omega,by omega,by omega,hGU⟩
            case measure=>simp[intOf];omega
          |false=>
           go_wp2_with (go_at_call 234;refine(C2 HH.out a b x _ (HB0.out.trans hAV.out) (by omega) (by omega) (by omega)).mono ?_;rintro en w148 ⟨k148,rfl,hk1,hk2,hp⟩;have hGV:=AA (hAV.out.trans hp);obtain⟨c0,c1⟩:=HC.out _ (hAV.out.trans hp);clear hp)
           go_roundw
           case rel=>exact⟨k148,b,L,_,_,by go_num,by go_num,rfl,rfl,rfl,by omega,by omega,by omega,by omega,hGV⟩
           case measure=>simp[intOf];omega
         ·have da:decide (0<(a:Int))=false:=by simp;omega
          go_upto_region 22 with(go_at_call 235;refine(CA HH.out a b x _ (HB0.out.trans hAr.out) (by omega) (by omega) (by omega)).mono ?_;rintro en w152 ⟨k152,z152,rfl,hk1,hk2,hp⟩;have hAX:=AA (hAr.out.trans hp);obtain⟨c0,c1⟩:=HC.out _ (hAr.out.trans hp);clear hp)
          by_cases hlr:k152-a<b-k152
          ·have dlr:decide ((k152:Int)-(a:Int)<(b:Int)-(k152:Int))=true:=by simp;omega
           go_wp2_with (go_at_call 169;refine(HIH.out a k152 L _ (HB0.out.trans hAX.out) (by omega) (by omega) (by omega) (by omega)).mono ?_;rintro en w153 ⟨rfl,hp⟩;have hGW:=AA (hAX.out.trans hp);obtain⟨c0,c1⟩:=HC.out _ (hAX.out.trans hp);clear hp)
           go_roundw
           case rel=>exact⟨k152+1,b,L,_,_,by go_num,by go_num,rfl,rfl,rfl,by omega,by omega,by omega,by omega,hGW⟩
           case measure=>simp[intOf];omega
          ·have dlr:decide ((k152:Int)-(a:Int)<(b:Int)-(k152:Int))=false:=by simp;omega
           have hih:=HIH.out (k152+1) b L
           push_cast at hih
           have HI2:=AA hih;clear hih;go_wp2_with (go_at_call 169;refine(HI2.out _ (HB0.out.trans hAX.out) (by omega) (by omega) (by omega) (by omega)).mono ?_;rintro en w154 ⟨rfl,hp⟩;have hGX:=AA (hAX.out.trans hp);obtain⟨c0,c1⟩:=HC.out _ (hAX.out.trans hp);clear hp)
           go_roundw
           case rel=>exact⟨a,k152,L,_,_,by go_num,by go_num,rfl,rfl,rfl,by omega,by omega,by omega,by omega,hGX⟩
           case measure=>simp[intOf];omega
        ·go_wp2
         first
          |go_end0
          |refine bodyPost_ret (results_none rfl _ _ _) rfl ?_
         exact⟨rfl,yH.out _ hAr.out⟩
      ·have e1:(h==1)=false:=by simp[h1]
       cases wp with
       |false=>
        go_upto_region 18 with fail
        by_cases ha:0<a
        ·have da:decide (0<(a:Int))=true:=by simp;omega
         go_wp2_with fail
         have hl:=HH.out.less HB0.out yL.out (a-1) (x) (by omega) (by omega);try push_cast at hl
         rw[show((a-1:Nat):Int)=(a:Int)-1 from by omega]at hl;refine hl.mono ?_;clear hl;rintro en w155 ⟨k155,rfl,hp⟩;have hAY:=AA hp;obtain⟨c0,c1⟩:=HC.out _ hp;clear hp;cases k155 with
         |true=>
          go_upto_region 22 with(go_at_call 235;refine(CA HH.out a b x _ (HB0.out.trans hAY.out) (by omega) (by omega) (by omega)).mono ?_;rintro en w157 ⟨k157,z157,rfl,hk1,hk2,hp⟩;have hAa:=AA (hAY.out.trans hp);obtain⟨c0,c1⟩:=HC.out _ (hAY.out.trans hp);clear hp)
          by_cases hlr:k157-a<b-k157
          ·have dlr:decide ((k157:Int)-(a:Int)<(b:Int)-(k157:Int))=true:=by simp;omega
           go_wp2_with (go_at_call 169;refine(HIH.out a k157 L _ (HB0.out.trans hAa.out) (by omega) (by omega) (by omega) (by omega)).mono ?_;rintro en w158 ⟨rfl,hp⟩;have hGY:=AA (hAa.out.trans hp);obtain⟨c0,c1⟩:=HC.out _ (hAa.out.trans hp);clear hp)
           go_roundw
           case rel=>exact⟨k157+1,b,L,_,_,by go_num,by go_num,rfl,rfl,rfl,by omega,by omega,by omega,by omega,hGY⟩
           case measure=>simp[intOf];omega
          ·have dlr:decide ((k157:Int)-(a:Int)<(b:Int)-(k157:Int))=false:=by simp;omega
           have hih:=HIH.out (k157+1) b L
           push_cast at hih
           have HI2:=AA hih;clear hih;go_wp2_with (go_at_call 169;refine(HI2.out _ (HB0.out.trans hAa.out) (by omega) (by omega) (by omega) (by omega)).mono ?_;rintro en w159 ⟨rfl,hp⟩;have hGZ:=AA (hAa.out.trans hp);obtain⟨c0,c1⟩:=HC.out _ (hAa.out.trans hp);clear hp)
           go_roundw
           case rel=>exact⟨a,k157,L,_,_,by go_num,by go_num,rfl,rfl,rfl,by omega,by omega,by omega,by omega,hGZ⟩
           case measure=>simp[intOf];omega
         |false=>
          go_wp2_with (go_at_call 234;refine(C2 HH.out a b x _ (HB0.out.trans hAY.out) (by omega) (by omega) (by omega)).mono ?_;rintro en w156 ⟨k156,rfl,hk1,hk2,hp⟩;have hGa:=AA (hAY.out.trans hp);obtain⟨c0,c1⟩:=HC.out _ (hAY.out.trans hp);clear hp)
          go_roundw
          case rel=>exact⟨k156,b,L,_,_,by go_num,by go_num,rfl,rfl,rfl,by omega,by omega,by omega,by omega,hGa⟩
          case measure=>simp[intOf];omega
        ·have da:decide (0<(a:Int))=false:=by simp;omega
         go_upto_region 22 with(go_at_call 235;refine(CA HH.out a b x _ (HB0.out.trans yL.out) (by omega) (by omega) (by omega)).mono ?_;rintro en w160 ⟨k160,z160,rfl,hk1,hk2,hp⟩;have hAb:=AA (yL.out.trans hp);obtain⟨c0,c1⟩:=HC.out _ (yL.out.trans hp);clear hp)
         by_cases hlr:k160-a<b-k160
         ·have dlr:decide ((k160:Int)-(a:Int)<(b:Int)-(k160:Int))=true:=by simp;omega
          go_wp2_with (go_at_call 169;refine(HIH.out a k160 L _ (HB0.out.trans hAb.out) (by omega) (by omega) (by omega) (by omega)).mono ?_;rintro en w161 ⟨rfl,hp⟩;have hGb:=AA (hAb.out.trans hp);obtain⟨c0,c1⟩:=HC.out _ (hAb.out.trans hp);clear hp)
          go_roundw
          case rel=>exact⟨k160+1,b,L,_,_,by go_num,by go_num,rfl,rfl,rfl,by omega,by omega,by omega,by omega,hGb⟩
          case measure=>simp[intOf];omega
         ·have dlr:decide ((k160:Int)-(a:Int)<(b:Int)-(k160:Int))=false:=by simp;omega
          have hih:=HIH.out (k160+1) b L
          push_cast at hih
          have HI2:=AA hih;clear hih;go_wp2_with (go_at_call 169;refine(HI2.out _ (HB0.out.trans hAb.out) (by omega) (by omega) (by omega) (by omega)).mono ?_;rintro en w162 ⟨rfl,hp⟩;have hGc:=AA (hAb.out.trans hp);obtain⟨c0,c1⟩:=HC.out _ (hAb.out.trans hp);clear hp)
          go_roundw
          case rel=>exact⟨a,k160,L,_,_,by go_num,by go_num,rfl,rfl,rfl,by omega,by omega,by omega,by omega,hGc⟩
          case measure=>simp[intOf];omega
       |true=>
        go_upto_region 18 with fail
        by_cases ha:0<a
        ·have da:decide (0<(a:Int))=true:=by simp;omega
         go_wp2_with fail
         have hl:=HH.out.less HB0.out yL.out (a-1) (x) (by omega) (by omega);try push_cast at hl
         rw[show((a-1:Nat):Int)=(a:Int)-1 from by omega]at hl;refine hl.mono ?_;clear hl;rintro en w163 ⟨k163,rfl,hp⟩;have hAc:=AA hp;obtain⟨c0,c1⟩:=HC.out _ hp;clear hp;cases k163 with
         |true=>
          go_upto_region 22 with(go_at_call 235;refine(CA HH.out a b x _ (HB0.out.trans hAc.out) (by omega) (by omega) (by omega)).mono ?_;rintro en w165 ⟨k165,z165,rfl,hk1,hk2,hp⟩;have hAd:=AA (hAc.out.trans hp);obtain⟨c0,c1⟩:=HC.out _ (hAc.out.trans hp);clear hp)
          by_cases hlr:k165-a<b-k165
          ·have dlr:decide ((k165:Int)-(a:Int)<(b:Int)-(k165:Int))=true:=by simp;omega
           go_wp2_with (go_at_call 169;refine(HIH.out a k165 L _ (HB0.out.trans hAd.out) (by omega) (by omega) (by omega) (by omega)).mono ?_;rintro en w166 ⟨rfl,hp⟩;have hGf:=AA (hAd.out.trans hp);obtain⟨c0,c1⟩:=HC.out _ (hAd.out.trans hp);clear hp)
           go_roundw
           case rel=>exact⟨k165+1,b,L,_,_,by go_num,by go_num,rfl,rfl,rfl,by omega,by omega,by omega,by omega,hGf⟩
           case measure=>simp[intOf];omega
          ·have dlr:decide ((k165:Int)-(a:Int)<(b:Int)-(k165:Int))=false:=by simp;omega
           have hih:=HIH.out (k165+1) b L
           push_cast at hih
           have HI2:=AA hih;clear hih;go_wp2_with (go_at_call 169;refine(HI2.out _ (HB0.out.trans hAd.out) (by omega) (by omega) (by omega) (by omega)).mono ?_;rintro en w167 ⟨rfl,hp⟩;have hGg:=AA (hAd.out.trans hp);obtain⟨c0,c1⟩:=HC.out _ (hAd.out.trans hp);clear hp)
           go_roundw
           case rel=>exact⟨a,k165,L,_,_,by go_num,by go_num,rfl,rfl,rfl,by omega,by omega,by omega,by omega,hGg⟩
           case measure=>simp[intOf];omega
         |false=>
          go_wp2_with (go_at_call 234;refine(C2 HH.out a b x _ (HB0.out.trans hAc.out) (by omega) (by omega) (by omega)).mono ?_;rintro en w164 ⟨k164,rfl,hk1,hk2,hp⟩;have hGh:=AA (hAc.out.trans hp);obtain⟨c0,c1⟩:=HC.out _ (hAc.out.trans hp);clear hp)
          go_roundw
          case rel=>exact⟨k164,b,L,_,_,by go_num,by go_num,rfl,rfl,rfl,by omega,by omega,by omega,by omega,hGh⟩
          case measure=>simp[intOf];omega
        ·have da:decide (0<(a:Int))=false:=by simp;omega
         go_upto_region 22 with(go_at_call 235;refine(CA HH.out a b x _ (HB0.out.trans yL.out) (by omega) (by omega) (by omega)).mono ?_;rintro en w168 ⟨k168,z168,rfl,hk1,hk2,hp⟩;have hAe:=AA (yL.out.trans hp);obtain⟨c0,c1⟩:=HC.out _ (yL.out.trans hp);clear hp)
         by_cases hlr:k168-a<b-k168
         ·have dlr:decide ((k168:Int)-(a:Int)<(b:Int)-(k168:Int))=true:=by simp;omega
          go_wp2_with (go_at_call 169;refine(HIH.out a k168 L _ (HB0.out.trans hAe.out) (by omega) (by omega) (by omega) (by omega)).mono ?_;rintro en w169 ⟨rfl,hp⟩;have hGi:=AA (hAe.out.trans hp);obtain⟨c0,c1⟩:=HC.out _ (hAe.out.trans hp);clear hp)
          go_roundw
          case rel=>exact⟨k168+1,b,L,_,_,by go_num,by go_num,rfl,rfl,rfl,by omega,by omega,by omega,by omega,hGi⟩
          case measure=>simp[intOf];omega
         ·have dlr:decide ((k168:Int)-(a:Int)<(b:Int)-(k168:Int))=false:=by simp;omega
          have hih:=HIH.out (k168+1) b L
          push_cast at hih
          have HI2:=AA hih;clear hih;go_wp2_with (go_at_call 169;refine(HI2.out _ (HB0.out.trans hAe.out) (by omega) (by omega) (by omega) (by omega)).mono ?_;rintro en w170 ⟨rfl,hp⟩;have hGj:=AA (hAe.out.trans hp);obtain⟨c0,c1⟩:=HC.out _ (hAe.out.trans hp);clear hp)
          go_roundw
          case rel=>exact⟨a,k168,L,_,_,by go_num,by go_num,rfl,rfl,rfl,by omega,by omega,by omega,by omega,hGj⟩
          case measure=>simp[intOf];omega
end
end
end Go.Proofs.YtadllffeoibelaaGreat
