/-
  What these parts of the proof come to, functions walked and plain laws: Pd5. No condition.
-/
import Derived.Test.YtadllffeoibelaaGreatS15
namespace Go.Proofs.YtadllffeoibelaaGreat
set_option maxRecDepth 100000
set_option maxHeartbeats 32000000
set_option linter.all false
section
open Go.RowKit
section
variable {α:Type}{c:Be α}{t:TypeId}{w0:World}{g n f F:Nat}{sb lb:Array Value}{lt:α→α→Bool}{l0:List α}
theorem Ce(H:Srt c t w0 g n f F sb lb lt l0)(a b p:Nat)(w:World)(hw:BC c t g l0 w0 w)(hab:a+12<b)(hb:b≤n)(hpn:p<n):Calls Tryz.prog 234 #[.agg #[.func (.func F) #[] lb,.func (.func f) #[] sb],.int .i64 (a:Int),.int .i64 (b:Int),.int .i64 (p:Int)] w fun e w'=>∃k:Nat,e= .returned (.int .i64 (k:Int))∧a<k∧k≤b∧BC c t g l0 w w':=by
 have HH:=AA H;have hgw:g<w.heap.size:=hw.glt;obtain⟨B,hB⟩:∃B,B=w.alloc (.cells #[.func (.func F) #[] lb,.func (.func f) #[] sb] 190):=⟨_,rfl⟩;have h0B:BC c t g l0 w0 B:=by rw[hB];exact hw.alloc _
 have hBB:BC c t g l0 B B:=h0B.self;have hBx:Blk B w.heap.size 190 #[.func (.func F) #[] lb,.func (.func f) #[] sb]:=by rw[hB];exact Blk.new _ _ _
 have HOff:Hid (∀V,BC c t g l0 B V→BC c t g l0 w V):=fun V h=>by rw[hB]at h;exact h.off
 have HB0:=AA h0B;have HC:Hid (∀V,BC c t g l0 B V→V.cell? ⟨w.heap.size,0,none⟩=some (.func (.func F) #[] lb)∧V.cell? ⟨w.heap.size,1,none⟩=some (.func (.func f) #[] sb)):=fun V h=>⟨(h.box hBx (by omega)).cell 0,(h.box hBx (by omega)).cell 1⟩
 have eg:=H.eg;have hn6:=H.small;have HW:=AA hB;have HBB:=AA hBB;clear hw hB h0B hBB hBx H;go_enter Tryz.func234,Tryz.ntmps234;go_upto_region 1 with fail
 simp only[←HW.out];obtain⟨c0,c1⟩:=HC.out _ HBB.out;obtain⟨w2,hrun,hp⟩:=HH.out.swap HB0.out HBB.out (a) (p) (by omega) (by omega) (by omega);try push_cast at hrun
 have HP2:=AA hp;obtain⟨c0',c1'⟩:=HC.out _ hp;clear hp;go_upto_region 3 with fail
 go_wp2
 go_loopw [9,10] (fun iv jv wr=>∃i j:Nat,iv= .int .i64 (i:Int)∧jv= .int .i64 (j:Int)∧a+1≤i∧i≤b∧a≤j∧j+1≤b∧i≤j+2∧Hid (BC c t g l0 B wr)) (fun iv jv _=>(intOf jv).toNat+(b-(intOf iv).toNat))
 case atStart=>exact⟨a+1,b-1,by go_num,by go_num,by omega,by omega,by omega,by omega,by omega,HP2⟩
 case round=>
  obtain⟨i,j,rfl,rfl,hi,hib,haj,hjb,hij,HP⟩:=hrel;go_wp2
  go_loopw [9] (fun iv wr=>∃zz:Nat,iv= .int .i64 (zz:Int)∧i≤zz∧zz≤b∧zz≤(j)+2∧Hid (BC c t g l0 B wr)) (fun iv _=>b-(intOf iv).toNat)
  case atStart=>exact⟨i,by go_num,by omega,by omega,by omega,HP⟩
  case round=>
   obtain⟨i11,rfl,hi11,hi11',hi11'',HP12⟩:=hrel;obtain⟨c0,c1⟩:=HC.out _ HP12.out;by_cases hc:i11≤j
   ·have dc:decide ((i11:Int)≤(j:Int))=true:=by simp;omega
    go_wp2_with fail
    have hl:=HH.out.less HB0.out HP12.out (a) (i11) (by omega) (by omega);try push_cast at hl
    refine hl.mono ?_;clear hl;rintro en w13 ⟨k13,rfl,hp⟩;have HP13:=AA hp;obtain⟨c0,c1⟩:=HC.out _ hp;clear hp;cases k13 with
    |false=>
     go_wp2;go_roundw
     case rel=>exact⟨i11+1,by go_num,by omega,by omega,by omega,HP13⟩
     case measure=>simp[intOf];omega
    |true=>
     go_wp2
     go_loopw [10] (fun iv wr=>∃zz:Nat,iv= .int .i64 (zz:Int)∧a≤zz∧zz≤j∧i11≤zz+2∧Hid (BC c t g l0 B wr)) (fun iv _=>(intOf iv).toNat)
     case atStart=>exact⟨j,by go_num,by omega,by omega,by omega,HP13⟩
     case round=>
      obtain⟨j14,rfl,hj14,hj14',hj14'',HP15⟩:=hrel;obtain⟨c0,c1⟩:=HC.out _ HP15.out;by_cases hc:i11≤j14
      ·have dc:decide ((i11:Int)≤(j14:Int))=true:=by simp;omega
       go_wp2_with fail
       have hl:=HH.out.less HB0.out HP15.out (a) (j14) (by omega) (by omega);try push_cast at hl
       refine hl.mono ?_;clear hl;rintro en w16 ⟨k16,rfl,hp⟩;have HP16:=AA hp;obtain⟨c0,c1⟩:=HC.out _ hp;clear hp;cases k16 with
       |true=>
        go_wp2;go_roundw
        case rel=>exact⟨j14-1,by go_num,by omega,by omega,by omega,HP16⟩
        case measure=>simp[intOf];omega
       |false=>
        have dc2:decide ((j14:Int)<(i11:Int))=false:=by simp;omega
        have dc3:decide (j14<i11)=false:=by simp;omega
        obtain⟨w17,hrun,hp⟩:=HH.out.swap HB0.out HP16.out (i11) (j14) (by omega) (by omega) (by omega);try push_cast at hrun
        have HP17:=AA hp;obtain⟨c0',c1'⟩:=HC.out _ hp;clear hp;go_wp2;go_roundw
        case rel=>exact⟨i11+1,j14-1,by go_num,by go_num,by omega,by omega,by omega,by omega,by omega,HP17⟩
        case measure=>simp[intOf];omega
      ·have dc:decide ((i11:Int)≤(j14:Int))=false:=by simp;omega
       have dc2:decide ((j14:Int)<(i11:Int))=true:=by simp;omega
       have dc3:decide (j14<i11)=true:=by simp;omega
       go_wp2;go_ret;exact⟨i11,rfl,by omega,by omega,HOff.out _ HP15.out⟩
   ·have dc:decide ((i11:Int)≤(j:Int))=false:=by simp;omega
    go_wp2
    go_loopw [10] (fun iv wr=>∃zz:Nat,iv= .int .i64 (zz:Int)∧a≤zz∧zz≤j∧i11≤zz+2∧Hid (BC c t g l0 B wr)) (fun iv _=>(intOf iv).toNat)
    case atStart=>exact⟨j,by go_num,by omega,by omega,by omega,HP12⟩
    case round=>
     obtain⟨j18,rfl,hj18,hj18',hj18'',HP19⟩:=hrel;obtain⟨c0,c1⟩:=HC.out _ HP19.out;have hc:¬i11≤j18:=by omega
     have dc:decide ((i11:Int)≤(j18:Int))=false:=by simp;omega
     have dc2:decide ((j18:Int)<(i11:Int))=true:=by simp;omega
     have dc3:decide (j18<i11)=true:=by simp;omega
     go_wp2;go_ret;exact⟨i11,rfl,by omega,by omega,HOff.out _ HP19.out⟩
theorem B4(H:Srt c t w0 g n f F sb lb lt l0)(a b p:Nat)(w:World)(hw:BC c t g l0 w0 w)(hab:a+12<b)(hb:b≤n)(hpn:p<n):Calls Tryz.prog 235 #[.agg #[.func (.func F) #[] lb,.func (.func f) #[] sb],.int .i64 (a:Int),.int .i64 (b:Int),.int .i64 (p:Int)] w fun e w'=>∃(k:Nat) (z:Bool),e= .returned (.tuple #[.int .i64 (k:Int),.bool z])∧a≤k∧k<b∧BC c t g l0 w w':=by
 have HH:=AA H;have hgw:g<w.heap.size:=hw.glt;obtain⟨B,hB⟩:∃B,B=w.alloc (.cells #[.func (.func F) #[] lb,.func (.func f) #[] sb] 190):=⟨_,rfl⟩;have h0B:BC c t g l0 w0 B:=by rw[hB];exact hw.alloc _
 have hBB:BC c t g l0 B B:=h0B.self;have hBx:Blk B w.heap.size 190 #[.func (.func F) #[] lb,.func (.func f) #[] sb]:=by rw[hB];exact Blk.new _ _ _
 have HOff:Hid (∀V,BC c t g l0 B V→BC c t g l0 w V):=fun V h=>by rw[hB]at h;exact h.off
 have HB0:=AA h0B;have HC:Hid (∀V,BC c t g l0 B V→V.cell? ⟨w.heap.size,0,none⟩=some (.func (.func F) #[] lb)∧V.cell? ⟨w.heap.size,1,none⟩=some (.func (.func f) #[] sb)):=fun V h=>⟨(h.box hBx (by omega)).cell 0,(h.box hBx (by omega)).cell 1⟩
 have eg:=H.eg;have hn6:=H.small;have HW:=AA hB;have HBB:=AA hBB;clear hw hB h0B hBB hBx H;go_enter Tryz.func235,Tryz.ntmps235;go_upto_region 1 with fail
 simp only[←HW.out];obtain⟨c0,c1⟩:=HC.out _ HBB.out;obtain⟨w2,hrun,hp⟩:=HH.out.swap HB0.out HBB.out (a) (p) (by omega) (by omega) (by omega);try push_cast at hrun
 have HP2:=AA hp;obtain⟨c0',c1'⟩:=HC.out _ hp;clear hp;go_upto_region 3 with fail
 go_wp2
 go_loopw [10] (fun iv wr=>∃zz:Nat,iv= .int .i64 (zz:Int)∧(a+1)≤zz∧zz≤b∧zz≤((b-1))+2∧Hid (BC c t g l0 B wr)) (fun iv _=>b-(intOf iv).toNat)
 case atStart=>exact⟨(a+1),by go_num,by omega,by omega,by omega,HP2⟩
 case round=>
  obtain⟨i21,rfl,hi21,hi21',hi21'',HP22⟩:=hrel;obtain⟨c0,c1⟩:=HC.out _ HP22.out;by_cases hc:i21≤(b-1)
  ·have dc:decide ((i21:Int)≤((b:Int)-1))=true:=by simp;omega
   go_wp2_with fail
   have hl:=HH.out.less HB0.out HP22.out (i21) (a) (by omega) (by omega);try push_cast at hl
   refine hl.mono ?_;clear hl;rintro en w23 ⟨k23,rfl,hp⟩;have HP23:=AA hp;obtain⟨c0,c1⟩:=HC.out _ hp;clear hp;cases k23 with
   |true=>
    go_wp2;go_roundw
    case rel=>exact⟨i21+1,by go_num,by omega,by omega,by omega,HP23⟩
    case measure=>simp[intOf];omega
   |false=>
    go_wp2
    go_loopw [11] (fun iv wr=>∃zz:Nat,iv= .int .i64 (zz:Int)∧a≤zz∧zz≤(b-1)∧i21≤zz+2∧Hid (BC c t g l0 B wr)) (fun iv _=>(intOf iv).toNat)
    case atStart=>exact⟨(b-1),by go_num,by omega,by omega,by omega,HP23⟩
    case round=>
     obtain⟨j24,rfl,hj24,hj24',hj24'',HP25⟩:=hrel;obtain⟨c0,c1⟩:=HC.out _ HP25.out;by_cases hc:i21≤j24
     ·have dc:decide ((i21:Int)≤(j24:Int))=true:=by simp;omega
      go_wp2_with fail
      have hl:=HH.out.less HB0.out HP25.out (j24) (a) (by omega) (by omega);try push_cast at hl
      refine hl.mono ?_;clear hl;rintro en w26 ⟨k26,rfl,hp⟩;have HP26:=AA hp;obtain⟨c0,c1⟩:=HC.out _ hp;clear hp;cases k26 with
      |false=>
       go_wp2;go_roundw
       case rel=>exact⟨j24-1,by go_num,by omega,by omega,by omega,HP26⟩
       case measure=>simp[intOf];omega
      |true=>
       have dc2:decide ((j24:Int)<(i21:Int))=false:=by simp;omega
       have dc3:decide (j24<i21)=false:=by simp;omega
       obtain⟨w27,hrun,hp⟩:=HH.out.swap HB0.out HP26.out (i21) (j24) (by omega) (by omega) (by omega);try push_cast at hrun
       have HP27:=AA hp;obtain⟨c0',c1'⟩:=HC.out _ hp;clear hp;go_wp2
       go_loopw [10,11] (fun iv jv wr=>∃i j:Nat,iv= .int .i64 (i:Int)∧jv= .int .i64 (j:Int)∧a+1≤i∧i≤b∧a≤j∧j+1≤b∧i≤j+2∧Hid (BC c t g l0 B wr)) (fun iv jv _=>(intOf jv).toNat+(b-(intOf iv).toNat))
       case atStart=>exact⟨i21+1,j24-1,by go_num,by go_num,by omega,by omega,by omega,by omega,by omega,HP27⟩
       case round=>
        obtain⟨i,j,rfl,rfl,hi,hib,haj,hjb,hij,HP⟩:=hrel;go_wp2
        go_loopw [10] (fun iv wr=>∃zz:Nat,iv= .int .i64 (zz:Int)∧i≤zz∧zz≤b∧zz≤(j)+2∧Hid (BC c t g l0 B wr)) (fun iv _=>b-(intOf iv).toNat)
        case atStart=>exact⟨i,by go_num,by omega,by omega,by omega,HP⟩
        case round=>
         obtain⟨i28,rfl,hi28,hi28',hi28'',HP29⟩:=hrel;obtain⟨c0,c1⟩:=HC.out _ HP29.out;by_cases hc:i28≤j
         ·have dc:decide ((i28:Int)≤(j:Int))=true:=by simp;omega
          go_wp2_with fail
          have hl:=HH.out.less HB0.out HP29.out (i28) (a) (by omega) (by omega);try push_cast at hl
          refine hl.mono ?_;clear hl;rintro en w30 ⟨k30,rfl,hp⟩;have HP30:=AA hp;obtain⟨c0,c1⟩:=HC.out _ hp;clear hp;cases k30 with
          |true=>
           go_wp2;go_roundw
           case rel=>exact⟨i28+1,by go_num,by omega,by omega,by omega,HP30⟩
           case measure=>simp[intOf];omega
          |false=>
           go_wp2
           go_loopw [11] (fun iv wr=>∃zz:Nat,iv= .int .i64 (zz:Int)∧a≤zz∧zz≤j∧i28≤zz+2∧Hid (BC c t g l0 B wr)) (fun iv _=>(intOf iv).toNat)
           case atStart=>exact⟨j,by go_num,by omega,by omega,by omega,HP30⟩
           case round=>
            obtain⟨j31,rfl,hj31,hj31',hj31'',HP32⟩:=hrel;obtain⟨c0,c1⟩:=HC.out _ HP32.out;by_cases hc:i28≤j31
            ·have dc:decide ((i28:Int)≤(j31:Int))=true:=by simp;omega
             go_wp2_with fail
             have hl:=HH.out.less HB0.out HP32.out (j31) (a) (by omega) (by omega);try push_cast at hl
             refine hl.mono ?_;clear hl;rintro en w33 ⟨k33,rfl,hp⟩;have HP33:=AA hp;obtain⟨c0,c1⟩:=HC.out _ hp;clear hp;cases k33 with
             |false=>
              go_wp2;go_roundw
              case rel=>exact⟨j31-1,by go_num,by omega,by omega,by omega,HP33⟩
              case measure=>simp[intOf];omega
             |true=>
              have dc2:decide ((j31:Int)<(i28:Int))=false:=by simp;omega
              have dc3:decide (j31<i28)=false:=by simp;omega
              obtain⟨w34,hrun,hp⟩:=HH.out.swap HB0.out HP33.out (i28) (j31) (by omega) (by omega) (by omega);try push_cast at hrun
              have HP34:=AA hp;obtain⟨c0',c1'⟩:=HC.out _ hp;clear hp;go_wp2;go_roundw
              case rel=>exact⟨i28+1,j31-1,by go_num,by go_num,by omega,by omega,by omega,by omega,by omega,HP34⟩
              case measure=>simp[intOf];omega
            ·have dc:decide ((i28:Int)≤(j31:Int))=false:=by simp;omega
             have dc2:decide ((j31:Int)<(i28:Int))=true:=by simp;omega
             have dc3:decide (j31<i28)=true:=by simp;omega
             obtain⟨w35,hrun,hp⟩:=HH.out.swap HB0.out HP32.out (j31) (a) (by omega) (by omega) (by omega);try push_cast at hrun
             have HP35:=AA hp;obtain⟨c0',c1'⟩:=HC.out _ hp;clear hp;go_wp2;go_ret2;exact⟨j31,false,rfl,by omega,by omega,HOff.out _ HP35.out⟩
         ·have dc:decide ((i28:Int)≤(j:Int))=false:=by simp;omega
          go_wp2
          go_loopw [11] (fun iv wr=>∃zz:Nat,iv= .int .i64 (zz:Int)∧a≤zz∧zz≤j∧i28≤zz+2∧Hid (BC c t g l0 B wr)) (fun iv _=>(intOf iv).toNat)
          case atStart=>exact⟨j,by go_num,by omega,by omega,by omega,HP29⟩
          case round=>
           obtain⟨j36,rfl,hj36,hj36',hj36'',HP37⟩:=hrel;obtain⟨c0,c1⟩:=HC.out _ HP37.out;have hc:¬i28≤j36:=by omega
           have dc:decide ((i28:Int)≤(j36:Int))=false:=by simp;omega
           have dc2:decide ((j36:Int)<(i28:Int))=true:=by simp;omega
           have dc3:decide (j36<i28)=true:=by simp;omega
           obtain⟨w39,hrun,hp⟩:=HH.out.swap HB0.out HP37.out (j36) (a) (by omega) (by omega) (by omega);try push_cast at hrun
           have HP39:=AA hp;obtain⟨c0',c1'⟩:=HC.out _ hp;clear hp;go_wp2;go_ret2;exact⟨j36,false,rfl,by omega,by omega,HOff.out _ HP39.out⟩
     ·have dc:decide ((i21:Int)≤(j24:Int))=false:=by simp;omega
      have dc2:decide ((j24:Int)<(i21:Int))=true:=by simp;omega
      have dc3:decide (j24<i21)=true:=by simp;omega
      obtain⟨w40,hrun,hp⟩:=HH.out.swap HB0.out HP25.out (j24) (a) (by omega) (by omega) (by omega);try push_cast at hrun
      have HP40:=AA hp;obtain⟨c0',c1'⟩:=HC.out _ hp;clear hp;go_wp2;go_ret2;exact⟨j24,true,rfl,by omega,by omega,HOff.out _ HP40.out⟩
  ·have dc:decide ((i21:Int)≤((b:Int)-1))=false:=by simp;omega
   go_wp2
   go_loopw [11] (fun iv wr=>∃zz:Nat,iv= .int .i64 (zz:Int)∧a≤zz∧zz≤(b-1)∧i21≤zz+2∧Hid (BC c t g l0 B wr)) (fun iv _=>(intOf iv).toNat)
   case atStart=>exact⟨(b-1),by go_num,by omega,by omega,by omega,HP22⟩
   case round=>
    obtain⟨j41,rfl,hj41,hj41',hj41'',HP42⟩:=hrel;obtain⟨c0,c1⟩:=HC.out _ HP42.out;have hc:¬i21≤j41:=by omega
    have dc:decide ((i21:Int)≤(j41:Int))=false:=by simp;omega
    have dc2:decide ((j41:Int)<(i21:Int))=true:=by simp;omega
    have dc3:decide (j41<i21)=true:=by simp;omega
    obtain⟨w44,hrun,hp⟩:=HH.out.swap HB0.out HP42.out (j41) (a) (by omega) (by omega) (by omega);try push_cast at hrun
    have HP44:=AA hp;obtain⟨c0',c1'⟩:=HC.out _ hp;clear hp;go_wp2;go_ret2;exact⟨j41,true,rfl,by omega,by omega,HOff.out _ HP44.out⟩
end
end
end Go.Proofs.YtadllffeoibelaaGreat
