/-
  Parts of the proof. No condition.
-/
import Derived.Test.YtadllffeoibelaaGreatS5
import Derived.Lib.ReflectliteSlice
import Derived.Laws.Externs
open Go.Proofs.Tryz
namespace Go.Proofs.YtadllffeoibelaaGreat
set_option maxRecDepth 100000
set_option maxHeartbeats 32000000
set_option linter.all false
section

section
variable {α:Type}{lt:α->α->Bool}
def C3(l:List α)(a m b d:Nat):List α:=l.take a++(((seg l m b).take d++(seg l a m++(seg l m b).drop d))++l.drop b)
def EI(l:List α)(a m b d:Nat):List α:=l.take a++(((seg l a m).take d++(seg l m b++(seg l a m).drop d))++l.drop b)
theorem Ip{l:List α}{a m b:Nat}(ham:a<=m)(hmb:m<=b)(hb:b<=l.length):C3 l a m b 0=l:=by
 unfold C3;rw[List.take_zero,List.drop_zero,List.nil_append,<-DI l ham hmb];exact(GV l (AG ham hmb) hb).1.symm
theorem Km{l:List α}{a m b:Nat}(ham:a<=m)(hmb:m<=b)(hb:b<=l.length):EI l a m b (m-a)=l:=by
 unfold EI;have e:(seg l a m).length=m-a:=Ca l (by omega);have t1:(seg l a m).take (m-a)=seg l a m:=AT (by omega);have t2:(seg l a m).drop (m-a)=[]:=List.drop_eq_nil_of_le (by omega);rw[t1,t2,List.append_nil,<-DI l ham hmb];exact(GV l (AG ham hmb) hb).1.symm
theorem GL{l:List α}{a:Nat}(h:a<l.length):seg l a (a+1)=[l[a]]:=by
 unfold seg;rw[List.drop_take,show a+1-a=1 from by omega,List.drop_eq_getElem_cons h];rfl
theorem ME{l:List α}{a b d:Nat}(hb:b<=l.length)(hd:a+1+d<b):CV (C3 l a (a+1) b d) (a+d) (a+d+1)=C3 l a (a+1) b (d+1):=by
 have hY:(seg l (a+1) b).length=b-(a+1):=Ca l hb;have hx:d<(seg l (a+1) b).length:=by omega
 unfold C3;rw[GL (l:=l) (a:=a) (by omega),List.drop_eq_getElem_cons hx,List.take_succ_eq_append_getElem hx];have h:=OE (l.take a++(seg l (a+1) b).take d) ((seg l (a+1) b).drop (d+1)++l.drop b) l[a] (seg l (a+1) b)[d];have e1:(l.take a++(seg l (a+1) b).take d).length=a+d:=by rw[AI,AZ,AZ];omega
 rw[e1]at h;simp only[List.append_assoc,List.cons_append,List.nil_append]at h ⊢;exact h
theorem NJ{l:List α}{a m d:Nat}(hb:m+1<=l.length)(hd:a+d+1<=m):CV (EI l a m (m+1) (d+1)) (a+d+1) (a+d)=EI l a m (m+1) d:=by
 have hX:(seg l a m).length=m-a:=Ca l (by omega);have hx:d<(seg l a m).length:=by omega
 unfold EI;rw[GL (l:=l) (a:=m) (by omega),List.drop_eq_getElem_cons hx,List.take_succ_eq_append_getElem hx];have h:=KE (l.take a++(seg l a m).take d) ((seg l a m).drop (d+1)++l.drop (m+1)) (seg l a m)[d] l[m];have e1:(l.take a++(seg l a m).take d).length=a+d:=by rw[AI,AZ,AZ];omega
 rw[e1]at h;simp only[List.append_assoc,List.cons_append,List.nil_append]at h ⊢;exact h
theorem MF(ho:Ord lt){l:List α}{a b i:Nat}(hb:b<=l.length)(hY:Asc lt (seg l (a+1) b))(hi:a+1<=i)(hib:i<=b)(h1:i=a+1∨∃u x,l[i-1]? =some u/\l[a]? =some x/\lt u x=true)(h2:i=b∨∃u x,l[i]? =some u/\l[a]? =some x/\lt u x=false):CG l (C3 l a (a+1) b (i-(a+1))) a b/\Asc lt (seg (C3 l a (a+1) b (i-(a+1))) a b):=by
 have hYl:(seg l (a+1) b).length=b-(a+1):=Ca l hb;have hal:a<l.length:=by omega
 have hP:(l.take a).length=a:=by rw[AZ];omega
 have ea:l[a]? =some l[a]:=AE hal;have h:=Qg ho (P:=l.take a) (S:=l.drop b) (Y:=seg l (a+1) b) (x:=l[a]) (a:=a) (b:=b) (i:=i-(a+1)) hP (by omega) hY (by omega)
  (by
   rcases h1 with h|⟨u,x,hu,hx,hux⟩
   ·left;omega
   ·rcases Nat.eq_zero_or_pos (i-(a+1))with h0|h0
    ·exact .inl h0
    ·rw[ea]at hx;cases hx;refine .inr ⟨u,?_,hux⟩;rw[Ef l (by omega),<-hu];congr 1;omega)
  (by
   rcases h2 with h|⟨u,x,hu,hx,hux⟩
   ·left;omega
   ·rcases Nat.lt_or_ge i b with hlt|hge
    ·rw[ea]at hx;cases hx;refine .inr ⟨u,?_,hux⟩;rw[Ef l (by omega),<-hu];congr 1;omega
    ·left;omega)
 have e:l.take a++(l[a]::seg l (a+1) b++l.drop b)=l:=by
  have:=Ip (l:=l) (a:=a) (m:=a+1) (b:=b) (by omega) (by omega) hb;unfold C3 at this;rw[GL hal]at this;simpa using this
 have e2:C3 l a (a+1) b (i-(a+1))=l.take a++(((seg l (a+1) b).take (i-(a+1))++l[a]::(seg l (a+1) b).drop (i-(a+1)))++l.drop b):=by
  unfold C3;rw[GL hal];rfl
 rw[e,<-e2]at h;exact h
theorem NK(ho:Ord lt){l:List α}{a m i:Nat}(hb:m+1<=l.length)(hX:Asc lt (seg l a m))(hi:a<=i)(him:i<=m)(h1:i=a∨∃u y,l[i-1]? =some u/\l[m]? =some y/\lt y u=false)(h2:i=m∨∃u y,l[i]? =some u/\l[m]? =some y/\lt y u=true):CG l (EI l a m (m+1) (i-a)) a (m+1)/\Asc lt (seg (EI l a m (m+1) (i-a)) a (m+1)):=by
 have hXl:(seg l a m).length=m-a:=Ca l (by omega);have hml:m<l.length:=by omega
 have hP:(l.take a).length=a:=by rw[AZ];omega
 have em:l[m]? =some l[m]:=AE hml;have h:=Sb ho (P:=l.take a) (S:=l.drop (m+1)) (X:=seg l a m) (y:=l[m]) (a:=a) (b:=m+1) (i:=i-a) hP (by omega) hX (by omega)
  (by
   rcases h1 with h|⟨u,x,hu,hx,hux⟩
   ·left;omega
   ·rcases Nat.eq_zero_or_pos (i-a)with h0|h0
    ·exact .inl h0
    ·rw[em]at hx;cases hx;refine .inr ⟨u,?_,hux⟩;rw[Ef l (by omega),<-hu];congr 1;omega)
  (by
   rcases h2 with h|⟨u,x,hu,hx,hux⟩
   ·left;omega
   ·rcases Nat.lt_or_ge i m with hlt|hge
    ·rw[em]at hx;cases hx;refine .inr ⟨u,?_,hux⟩;rw[Ef l (by omega),<-hu];congr 1;omega
    ·left;omega)
 have e:l.take a++((seg l a m++[l[m]])++l.drop (m+1))=l:=by
  have:=Km (l:=l) (a:=a) (m:=m) (b:=m+1) (by omega) (by omega) hb;unfold EI at this;have t1:(seg l a m).take (m-a)=seg l a m:=AT (by omega);have t2:(seg l a m).drop (m-a)=[]:=List.drop_eq_nil_of_le (by omega);rw[GL hml,t1,t2,List.append_nil]at this;exact this
 have e2:EI l a m (m+1) (i-a)=l.take a++(((seg l a m).take (i-a)++l[m]::(seg l a m).drop (i-a))++l.drop (m+1)):=by
  unfold EI;rw[GL hml];rfl
 rw[e,<-e2]at h;exact h
def Sy(l:List α)(s m e:Nat):List α:=l.take s++(seg l m e++(seg l s m++l.drop e))
theorem JO{l:List α}{s m e:Nat}(hsm:s<=m)(hme:m<=e)(he:e<=l.length):l=l.take s++(seg l s m++(seg l m e++l.drop e)):=by
 rw[<-List.append_assoc (seg l s m),<-DI l hsm hme];exact(GV l (AG hsm hme) he).1
theorem Pq{l:List α}{s m e mid:Nat}(hsm:s<=m)(hme:m<=e)(he:e<=l.length)(hmid:mid+m=s+e):CG l (Sy l s m e) s e/\seg (Sy l s m e) s mid=seg l m e/\seg (Sy l s m e) mid e=seg l s m:=by
 have h1:(l.take s).length=s:=by rw[AZ];omega
 have h2:(seg l s m).length=m-s:=Ca l (by omega);have h3:(seg l m e).length=e-m:=Ca l he;refine⟨?_,?_,?_⟩
 ·have:=JK (P:=l.take s) (X:=seg l s m++seg l m e) (X':=seg l m e++seg l s m) (S:=l.drop e) (a:=s) (b:=e) h1 (by rw[h1,AI];omega) List.perm_append_comm;rw[List.append_assoc,List.append_assoc,<-JO hsm hme he]at this;exact this
 ·exact IE h1 (by omega)
 ·have:=IE (P:=l.take s++seg l m e) (X:=seg l s m) (S:=l.drop e) (a:=mid) (b:=e) (by rw[AI];omega) (by rw[AI];omega);rwa[List.append_assoc]at this
theorem Pr{l:List α}{s m e mid:Nat}(hmid:mid+m=s+e)(h:s=m∨m=e):seg l s mid=seg l m e/\seg l mid e=seg l s m:=by
 rcases h with rfl|rfl
 ·obtain rfl:mid=e:=by omega
  exact⟨rfl,by rw[B4 l (.inr (AB _)),B4 l (.inr (AB _))]⟩
 ·obtain rfl:mid=s:=by omega
  exact⟨by rw[B4 l (.inr (AB _)),B4 l (.inr (AB _))],rfl⟩
end
end
section
open Go.RowKit
section
variable {α:Type}{c:α->List Value}{t:TypeId}{w0:World}{g n f F:Nat}{sb lb:Array Value}{lt:α->α->Bool}{l0:List α}
def Vn(lt:α->α->Bool)(l:List α)(a m b i j:Nat):Prop:=
 m<=i/\i<=j/\j<=b/\(i=m∨∃u x,l[i-1]? =some u/\l[a]? =some x/\lt u x=true)/\(j=b∨∃u x,l[j]? =some u/\l[a]? =some x/\lt u x=false)
def Vo(lt:α->α->Bool)(l:List α)(a m i j:Nat):Prop:=
 a<=i/\i<=j/\j<=m/\(i=a∨∃u y,l[i-1]? =some u/\l[m]? =some y/\lt y u=false)/\(j=m∨∃u y,l[j]? =some u/\l[m]? =some y/\lt y u=true)
def UL(lt:α->α->Bool)(l:List α)(p s0 r0 s r:Nat):Prop:=
 s0<=s/\s<=r/\r<=r0/\(s=s0∨∃u x,l[p-(s-1)]? =some u/\l[s-1]? =some x/\lt u x=false)/\(r=r0∨∃u x,l[p-r]? =some u/\l[r]? =some x/\lt u x=true)
theorem Ps(eg:∀args w,(callFunc F args).run prog w= .ok (.enter F args) w)(ho:Ord lt)(hle:EO c t w0 g l0 lt F lb)(hsw:Es c t w0 g n f sb)(a m b:Nat)(l:List α)(w:World)(xP:Row c t w0 g l w)(hp:l.Perm l0)(hn:l.length=n)(xR:n<=1000000)(hm:m=a+1)(hmb:m<b)(hb:b<=n)(hY:Asc lt (seg l m b)):Calls prog 180 #[.agg #[.func (.func F) #[] lb,.func (.func f) #[] sb],.int .i64 (a:Int),.int .i64 (m:Int),.int .i64 (b:Int)] w (Dy c t g lt l a b w):=by
 have HO:=AA ho;clear ho;have HLe:=AA hle;clear hle;have HSw:=AA hsw;clear hsw;have xY:=AA xP;clear xP;have HP:=AA hp;clear hp;have HN:=AA hn;clear hn;have HY:=AA hY;clear hY;have HM:=AA hm;have hgw:g<w.heap.size:=xY.out.blk.lt;have hma:(m:Int)-(a:Int)=1:=by omega
 have ham:a<m:=by omega
 clear hm;go_enter func180,ntmps180;go_wp2
 go_loopw [8,9] (fun iv jv wr=>∃(i j:Nat),iv= .int .i64 (i:Int)/\jv= .int .i64 (j:Int)/\Vn lt l a m b i j/\Row c t (w.alloc (.cells #[.func (.func F) #[] lb,.func (.func f) #[] sb] 190)) g l wr) (fun iv jv _=>(intOf jv).toNat-(intOf iv).toNat)
 case atStart=>exact⟨m,b,rfl,rfl,⟨AB _,by omega,AB _,.inl rfl,.inl rfl⟩,Row.self (xY.out.blk.alloc _)⟩
 case round=>
  obtain⟨i,j,rfl,rfl,⟨hi1,hij,hjb,h1,h2⟩,hr⟩:=hrel;have H1:=AA h1;have H2:=AA h2;have HR:=AA hr;clear h1 h2 hr;have c0:wr.cell? ⟨w.heap.size,0,none⟩=some (.func (.func F) #[] lb):=(HR.out.box (Blk.new w _ _) (by omega)).cell 0;by_cases hlt:i<j
  ·have dl:=Wu (show i<j by omega)
   obtain⟨h,hh⟩:=Wr ((i+j)/2);have hhi:((i:Int)+(j:Int))/2=(h:Int):=by omega
   have hih:i<=h:=by omega
   have hhj:h<j:=by omega
   clear hh;obtain⟨x,hx⟩:∃x,l[h]? =some x:=⟨_,AE (by rw[HN.out];omega)⟩;obtain⟨y,hy⟩:∃y,l[a]? =some y:=⟨_,AE (by rw[HN.out];omega)⟩;have HL:=AA (HLe.out wr l h a x y (xY.out.trans HR.out.off) HP.out hx hy);have HX:=AA hx;have HYy:=AA hy;clear hx hy;cases hlv:lt x y with
   |true=>
    rw[hlv]at HL;go_wp2_with fail
    refine HL.out.mono ?_;rintro e w2 ⟨rfl,hb2⟩;go_wp2;go_roundw
    case rel=>exact⟨h+1,j,by go_num,rfl,⟨by omega,by omega,hjb,.inr ⟨x,y,HX.out,HYy.out,hlv⟩,H2.out⟩,HR.out.below hb2⟩
    case measure=>simp[intOf];omega
   |false=>
    rw[hlv]at HL;go_wp2_with fail
    refine HL.out.mono ?_;rintro e w2 ⟨rfl,hb2⟩;go_wp2;go_roundw
    case rel=>exact⟨i,h,rfl,rfl,⟨hi1,by omega,by omega,H1.out,.inr ⟨x,y,HX.out,HYy.out,hlv⟩⟩,HR.out.below hb2⟩
    case measure=>simp[intOf];omega
  ·have dl:=Wv (show j<=i by omega)
   obtain rfl:j=i:=by omega
   go_wp2
   go_loopw [11] (fun kv wr=>∃d:Nat,kv= .int .i64 ((a+d:Nat):Int)/\d<=j-m/\Row c t (w.alloc (.cells #[.func (.func F) #[] lb,.func (.func f) #[] sb] 190)) g (C3 l a m b d) wr) (fun kv _=>b-(intOf kv).toNat)
   case atStart=>exact⟨0,rfl,Nat.zero_le _,by rw[Ip (by omega) (by omega) (by rw[HN.out];exact hb)];exact HR.out⟩
   case round=>
    clear c0;obtain⟨d,rfl,hd,hr⟩:=hrel;clear HR;have HR:=AA hr;clear hr;obtain⟨k,hk⟩:=Wr (a+d);have HK:=AA hk;have hak:a<=k:=by omega
    rw[<-hk];by_cases hFy:d<j-m
    ·have dk:decide ((k:Int)<(j:Int)-1)=true:=by simp;omega
     have hkb:k+1<b:=by omega
     have c1:wr.cell? ⟨w.heap.size,1,none⟩=some (.func (.func f) #[] sb):=(HR.out.box (Blk.new w _ _) (by omega)).cell 1;have xQ:(C3 l a m b d).length=n:=by
      have e:=(Ly (C3 l a m b d) 0 0);have:=HN.out;unfold C3;simp only[AI,AZ,List.length_drop];rw[Ca l (by omega),Ca l (by omega)];omega
     obtain⟨W',xK,yd⟩:=HSw.out wr _ k (k+1) (xY.out.trans HR.out.off) xQ (by omega) (by omega) (by omega);rw[show((k+1:Nat):Int)=(k:Int)+1 from by omega]at xK;have hs:CV (C3 l a m b d) k (k+1)=C3 l a m b (d+1):=by
      rw[HK.out,HM.out];exact ME (by rw[HN.out];exact hb) (by have:=HM.out;omega)
     rw[hs]at yd;have HR':=AA (HR.out.trans yd);clear hs yd xQ hk;go_wp2;go_roundw
     case rel=>exact⟨d+1,by rw[HK.out];go_num,by omega,HR'.out⟩
     case measure=>simp[intOf];omega
    ·have dk:decide ((k:Int)<(j:Int)-1)=false:=by simp;omega
     have hd2:d=j-m:=by omega
     have HD:=AA hd2;clear hd2 hk;go_wp2;go_end0;have hM:=HM.out;subst hM;obtain⟨q1,q2⟩:=MF HO.out (l:=l) (a:=a) (b:=b) (i:=j) (by rw[HN.out];exact hb) HY.out (by omega) hjb H1.out H2.out;rw[<-HD.out]at q1 q2;exact⟨rfl,_,HR.out.off,q1,q2⟩
theorem Qw(eg:∀args w,(callFunc F args).run prog w= .ok (.enter F args) w)(ho:Ord lt)(hle:EO c t w0 g l0 lt F lb)(hsw:Es c t w0 g n f sb)(a m b:Nat)(l:List α)(w:World)(xP:Row c t w0 g l w)(hp:l.Perm l0)(hn:l.length=n)(xR:n<=1000000)(ham:a+1<m)(hm:b=m+1)(hb:b<=n)(hX:Asc lt (seg l a m)):Calls prog 180 #[.agg #[.func (.func F) #[] lb,.func (.func f) #[] sb],.int .i64 (a:Int),.int .i64 (m:Int),.int .i64 (b:Int)] w (Dy c t g lt l a b w):=by
 have HO:=AA ho;clear ho;have HLe:=AA hle;clear hle;have HSw:=AA hsw;clear hsw;have xY:=AA xP;clear xP;have HP:=AA hp;clear hp;have HN:=AA hn;clear hn;have HX0:=AA hX;clear hX;have HM:=AA hm;have hgw:g<w.heap.size:=xY.out.blk.lt;have hbm:(b:Int)-(m:Int)=1:=by omega
 have hmb:m<b:=by omega
 have dma:((m:Int)-(a:Int)==1)=false:=by simp;omega
 clear hm;go_enter func180,ntmps180;go_wp2
 go_loopw [12,13] (fun iv jv wr=>∃(i j:Nat),iv= .int .i64 (i:Int)/\jv= .int .i64 (j:Int)/\Vo lt l a m i j/\Row c t (w.alloc (.cells #[.func (.func F) #[] lb,.func (.func f) #[] sb] 190)) g l wr) (fun iv jv _=>(intOf jv).toNat-(intOf iv).toNat)
 case atStart=>exact⟨a,m,rfl,rfl,⟨AB _,by omega,AB _,.inl rfl,.inl rfl⟩,Row.self (xY.out.blk.alloc _)⟩
 case round=>
  obtain⟨i,j,rfl,rfl,⟨hi1,hij,hjb,h1,h2⟩,hr⟩:=hrel;have H1:=AA h1;have H2:=AA h2;have HR:=AA hr;clear h1 h2 hr;have c0:wr.cell? ⟨w.heap.size,0,none⟩=some (.func (.func F) #[] lb):=(HR.out.box (Blk.new w _ _) (by omega)).cell 0;by_cases hlt:i<j
  ·have dl:=Wu (show i<j by omega)
   obtain⟨h,hh⟩:=Wr ((i+j)/2);have hhi:((i:Int)+(j:Int))/2=(h:Int):=by omega
   have hih:i<=h:=by omega
   have hhj:h<j:=by omega
   clear hh;obtain⟨x,hx⟩:∃x,l[h]? =some x:=⟨_,AE (by rw[HN.out];omega)⟩;obtain⟨y,hy⟩:∃y,l[m]? =some y:=⟨_,AE (by rw[HN.out];omega)⟩;have HL:=AA (HLe.out wr l m h y x (xY.out.trans HR.out.off) HP.out hy hx);have HX:=AA hx;have HYy:=AA hy;clear hx hy;cases hlv:lt y x with
   |false=>
    rw[hlv]at HL;go_wp2_with fail
    refine HL.out.mono ?_;rintro e w2 ⟨rfl,hb2⟩;go_wp2;go_roundw
    case rel=>exact⟨h+1,j,by go_num,rfl,⟨by omega,by omega,hjb,.inr ⟨x,y,HX.out,HYy.out,hlv⟩,H2.out⟩,HR.out.below hb2⟩
    case measure=>simp[intOf];omega
   |true=>
    rw[hlv]at HL;go_wp2_with fail
    refine HL.out.mono ?_;rintro e w2 ⟨rfl,hb2⟩;go_wp2;go_roundw
    case rel=>exact⟨i,h,rfl,rfl,⟨hi1,by omega,by omega,H1.out,.inr ⟨x,y,HX.out,HYy.out,hlv⟩⟩,HR.out.below hb2⟩
    case measure=>simp[intOf];omega
  ·have dl:=Wv (show j<=i by omega)
   obtain rfl:j=i:=by omega
   go_wp2
   go_loopw [15] (fun kv wr=>∃d:Nat,kv= .int .i64 ((a+d:Nat):Int)/\j-a<=d/\d<=m-a/\Row c t (w.alloc (.cells #[.func (.func F) #[] lb,.func (.func f) #[] sb] 190)) g (EI l a m b d) wr) (fun kv _=>(intOf kv).toNat)
   case atStart=>
    refine⟨m-a,?_,by omega,AB _,by rw[Km (by omega) (by omega) (by rw[HN.out];exact hb)];exact HR.out⟩;rw[show a+(m-a)=m from by omega]
   case round=>
    clear c0;obtain⟨d,rfl,hd,hdm,hr⟩:=hrel;clear HR;have HR:=AA hr;clear hr;obtain⟨k,hk⟩:=Wr (a+d);have HK:=AA hk;have hak:a<=k:=by omega
    have hkm:k<=m:=by omega
    rw[<-hk];by_cases hFy:j-a<d
    ·have dk:=Wu (show j<k by omega)
     have hkj:j<k:=by omega
     have c1:wr.cell? ⟨w.heap.size,1,none⟩=some (.func (.func f) #[] sb):=(HR.out.box (Blk.new w _ _) (by omega)).cell 1;have xQ:(EI l a m b d).length=n:=by
      have:=HN.out;unfold EI;simp only[AI,AZ,List.length_drop];rw[Ca l (by omega),Ca l (by omega)];omega
     obtain⟨W',xK,yd⟩:=HSw.out wr _ k (k-1) (xY.out.trans HR.out.off) xQ (by omega) (by omega) (by omega);rw[show((k-1:Nat):Int)=(k:Int)-1 from by omega]at xK;have hs:CV (EI l a m b d) k (k-1)=EI l a m b (d-1):=by
      have h:=NJ (l:=l) (a:=a) (m:=m) (d:=d-1) (by have:=HM.out;rw[HN.out];omega) (by omega);rw[show d-1+1=d from by omega,show a+(d-1)+1=k from by omega,show a+(d-1)=k-1 from by omega,<-HM.out]at h;exact h
     rw[hs]at yd;have HR':=AA (HR.out.trans yd);clear hs yd xQ hk;go_wp2;go_roundw
     case rel=>exact⟨d-1,by have:=HK.out;go_num,by omega,by omega,HR'.out⟩
     case measure=>simp[intOf];omega
    ·have dk:=Wv (show k<=j by omega)
     have hkj:k<=j:=by omega
     have hd2:d=j-a:=by omega
     have HD:=AA hd2;clear hd2 hk;go_wp2;go_end0;have hM:=HM.out;subst hM;obtain⟨q1,q2⟩:=NK HO.out (l:=l) (a:=a) (m:=m) (i:=j) (by rw[HN.out];exact hb) HX0.out hi1 hjb H1.out H2.out;rw[<-HD.out]at q1 q2;exact⟨rfl,_,HR.out.off,q1,q2⟩
end
section
variable {α:Type}{lt:α->α->Bool}
theorem MG{l:List α}{a s m:Nat}(h:s<=m):seg l a s=(seg l a m).take (s-a):=by
 unfold seg;rw[List.drop_take,List.drop_take,List.take_take];congr 1;omega
theorem MH{l:List α}{a s m:Nat}(h:a<=s):seg l s m=(seg l a m).drop (s-a):=by
 unfold seg;rw[List.drop_drop];congr 1;omega
structure I6 (lt:α->α->Bool)(l l1:List α)(a s m mid e b:Nat):Prop where
 has:a<=s
 hsm:s<=m
 hme:m<=e
 heb:e<=b
 hbl:b<=l.length
 hmid:mid+m=s+e
 hX:Asc lt (seg l a m)
 hY:Asc lt (seg l m b)
 F1:∀x∈seg l a s,∀y∈seg l e b,lt y x=false
 F2:∀x∈seg l m e,∀y∈seg l s m,lt y x=false
 k1:CG l l1 s e
 q1:seg l1 s mid=seg l m e
 q2:seg l1 mid e=seg l s m
variable {l l1 l2:List α}{a s m mid e b:Nat}
theorem I6.left(h:I6 lt l l1 a s m mid e b):Asc lt (seg l1 a s)/\Asc lt (seg l1 s mid):=by
 refine⟨?_,?_⟩
 ·rw[h.k1.seg_lo (AB _),MG h.hsm];exact h.hX.take _
 ·rw[h.q1,MG h.heb];exact h.hY.take _
theorem I6.leftNone(h:I6 lt l l1 a s m mid e b)(hs:s=a∨s=mid):Asc lt (seg l1 a mid):=by
 rcases hs with rfl|rfl
 ·exact h.left.2
 ·exact h.left.1
theorem I6.right(h:I6 lt l l1 a s m mid e b)(k2:CG l1 l2 a mid):Asc lt (seg l2 mid e)/\Asc lt (seg l2 e b):=by
 have hm:=h.hmid;have h1:=h.hsm;refine⟨?_,?_⟩
 ·rw[k2.seg_hi (AB _),h.q2,MH h.has];exact h.hX.drop _
 ·rw[k2.seg_hi (by omega),h.k1.seg_hi (AB _),MH h.hme];exact h.hY.drop _
theorem I6.rightNone(h:I6 lt l l1 a s m mid e b)(k2:CG l1 l2 a mid)(hs:e=mid∨e=b):Asc lt (seg l2 mid b):=by
 rcases hs with rfl|rfl
 ·exact(h.right k2).2
 ·exact(h.right k2).1
theorem I6.done{l3:List α}(h:I6 lt l l1 a s m mid e b)(k2:CG l1 l2 a mid)(z2:Asc lt (seg l2 a mid))(k3:CG l2 l3 mid b)(z3:Asc lt (seg l3 mid b)):CG l l3 a b/\Asc lt (seg l3 a b):=
 Sa h.has h.hsm h.hme h.heb h.hbl h.hmid h.hX h.hY h.F1 h.F2 h.k1 h.q1 h.q2 k2 z2 k3 z3
theorem NL(ho:Ord lt){l:List α}{a m b mid p s0 r0 s:Nat}(hmid:mid=(a+b)/2)(ham:a<m)(hmb:m<b)(hp:p=mid+m-1)(hs:(mid<m/\s0=mid+m-b/\r0=mid)∨(m<=mid/\s0=a/\r0=m))(hX:Asc lt (seg l a m))(hY:Asc lt (seg l m b))(h:UL lt l p s0 r0 s s):a<=s/\s<=m/\s<=mid/\m<=mid+m-s/\mid+m-s<=b/\(∀x∈seg l a s,∀y∈seg l (mid+m-s) b,lt y x=false)/\(∀x∈seg l m (mid+m-s),∀y∈seg l s m,lt y x=false):=by
 obtain⟨h1,_,h2,h3,h4⟩:=h;have e1:a<=s:=by omega
 have e2:s<=m:=by omega
 have e3:s<=mid:=by omega
 have e4:mid+m-s<=b:=by omega
 refine⟨e1,e2,e3,by omega,e4,?_,?_⟩
 ·by_cases hz:s=s0
  ·intro x hx y hy;rcases hs with⟨_,hs0,_⟩|⟨_,hs0,_⟩
   ·rw[B4 l (.inr (by omega))]at hy;cases hy
   ·rw[B4 l (.inr (by omega))]at hx;cases hx
  ·rcases h3 with h3|⟨u,x,hu,hx,hux⟩
   ·exact absurd h3 hz
   ·by_cases he:mid+m-s<b
    ·exact VX ho (l:=l) (a:=a) (s:=s) (m:=m) (e:=mid+m-s) (b:=b) (by omega) (by omega) hX hY (by omega) he hx (by rw[<-hu];congr 1;omega) hux
    ·intro x hx y hy;rw[B4 l (.inr (by omega))]at hy;cases hy
 ·by_cases hz:s=r0
  ·intro x hx y hy;rcases hs with⟨_,_,hr0⟩|⟨_,_,hr0⟩
   ·rw[B4 l (.inr (by omega))]at hx;cases hx
   ·rw[B4 l (.inr (by omega))]at hy;cases hy
  ·rcases h4 with h4|⟨u,x,hu,hx,hux⟩
   ·exact absurd h4 hz
   ·by_cases h5:s<m/\m<mid+m-s
    ·exact VY ho (l:=l) (a:=a) (s:=s) (m:=m) (e:=mid+m-s) (b:=b) h5.1 h5.2 e1 e4 hX hY hx (by rw[<-hu];congr 1;omega) hux
    ·intro x hx y hy;rcases Nat.lt_or_ge s m with h6|h6
     ·rw[B4 l (.inr (by omega))]at hx;cases hx
     ·rw[B4 l (.inr (by omega))]at hy;cases hy
end
section
variable {α:Type}{c:α->List Value}{t:TypeId}{w0:World}{g n f F:Nat}{sb lb:Array Value}{lt:α->α->Bool}{l0:List α}
theorem Sz(eg:∀args w,(callFunc F args).run prog w= .ok (.enter F args) w)(ho:Ord lt)(hle:EO c t w0 g l0 lt F lb)(hsw:Es c t w0 g n f sb)(a m b:Nat)(l:List α)(w:World)(xP:Row c t w0 g l w)(hp:l.Perm l0)(hn:l.length=n)(xR:n<=1000000)(ham:a+1<m)(hmb:m+1<b)(hb:b<=n)(hX:Asc lt (seg l a m))(hY:Asc lt (seg l m b))(hFz:∀(a' m' b':Nat) (l':List α) (w':World),b'-a'<b-a->Row c t w0 g l' w'->l'.Perm l0->l'.length=n->a'<m'->m'<b'->b'<=n->Asc lt (seg l' a' m')->Asc lt (seg l' m' b')->Calls prog 180 #[.agg #[.func (.func F) #[] lb,.func (.func f) #[] sb],.int .i64 (a':Int),.int .i64 (m':Int),.int .i64 (b':Int)] w' (Dy c t g lt l' a' b' w')):Calls prog 180 #[.agg #[.func (.func F) #[] lb,.func (.func f) #[] sb],.int .i64 (a:Int),.int .i64 (m:Int),.int .i64 (b:Int)] w (Dy c t g lt l a b w):=by
 have HO:=AA ho;clear ho;have HLe:=AA hle;clear hle;have HSw:=AA hsw;clear hsw;have xY:=AA xP;clear xP;have HP:=AA hp;clear hp;have HN:=AA hn;clear hn;have HX:=AA hX;clear hX;have HY:=AA hY;clear hY;have hF0:=AA hFz;clear hFz;have hgw:g<w.heap.size:=xY.out.blk.lt;have dma:((m:Int)-(a:Int)==1)=false:=by simp;omega
 have dbm:((b:Int)-(m:Int)==1)=false:=by simp;omega
 obtain⟨mid,hmid⟩:=Wr ((a+b)/2);have hmi:((a:Int)+(b:Int))/2=(mid:Int):=by omega
 have zC:=AA hmid;have hm1:a<=mid:=by omega
 have hm2:mid<b:=by omega
 have hm3:mid+mid<=a+b:=by omega
 have hm4:a+b<=mid+mid+1:=by omega
 clear hmid;obtain⟨nn,hnn⟩:=Wr (mid+m);have hni:(mid:Int)+(m:Int)=(nn:Int):=by omega
 obtain⟨p,hpp⟩:=Wr (mid+m-1);have hpi:(nn:Int)-1=(p:Int):=by omega
 have HPp:=AA hpp;have hpn1:p+1<=nn:=by omega
 have hpn2:nn<=p+1:=by omega
 have hnn1:nn<=mid+m:=by omega
 have hnn2:mid+m<=nn:=by omega
 clear hpp hnn;obtain⟨s0,r0,hs0⟩:∃s0 r0:Nat,(mid<m/\s0=mid+m-b/\r0=mid)∨(m<=mid/\s0=a/\r0=m):=by
  rcases Nat.lt_or_ge mid m with h|h
  ·exact⟨_,_,.inl ⟨h,rfl,rfl⟩⟩
  ·exact⟨_,_,.inr ⟨h,rfl,rfl⟩⟩
 have HS:=AA hs0;have hsr:s0<=r0:=by omega
 have hr0m:r0<=mid:=by omega
 have hps:p<=s0+b:=by omega
 have hps2:p-s0<b:=by omega
 have hr0p:r0<=p:=by omega
 have hr0n:r0<=m:=by omega
 go_enter func180,ntmps180;go_upto_if 106 with fail
 go_cut[18,19] (fun sv rv wx=>sv= .int .i64 (s0:Int)/\rv= .int .i64 (r0:Int)/\Row c t (w.alloc (.cells #[.func (.func F) #[] lb,.func (.func f) #[] sb] 190)) g l wx)
 case first=>
  rcases hs0 with⟨q1,q2,q3⟩|⟨q1,q2,q3⟩
  ·have dg:=Wu (show mid<m by omega)
   have hsi:(nn:Int)-(b:Int)=(s0:Int):=by omega
   subst q3;clear q2;go_wp2;go_meet;exact⟨rfl,rfl,Row.self (xY.out.blk.alloc _)⟩
  ·have dg:=Wv (show m<=mid by omega)
   subst q2;subst q3;go_wp2;go_meet;exact⟨rfl,rfl,Row.self (xY.out.blk.alloc _)⟩
 case rest=>
  obtain⟨rfl,rfl,hr0⟩:=hcut;clear hs0;have HR0:=AA hr0;clear hr0;go_wp2
  go_loopw [18,19] (fun sv rv wr=>∃(s r:Nat),sv= .int .i64 (s:Int)/\rv= .int .i64 (r:Int)/\UL lt l p s0 r0 s r/\Row c t (w.alloc (.cells #[.func (.func F) #[] lb,.func (.func f) #[] sb] 190)) g l wr) (fun sv rv _=>(intOf rv).toNat-(intOf sv).toNat)
  case atStart=>exact⟨s0,r0,rfl,rfl,⟨AB _,hsr,AB _,.inl rfl,.inl rfl⟩,HR0.out⟩
  case round=>
   clear HR0;obtain⟨s,r,rfl,rfl,⟨hs1,hsr1,hr1,h3,h4⟩,hr⟩:=hrel;have H3:=AA h3;have H4:=AA h4;have HR:=AA hr;clear h3 h4 hr;have c0:wr.cell? ⟨w.heap.size,0,none⟩=some (.func (.func F) #[] lb):=(HR.out.box (Blk.new w _ _) (by omega)).cell 0;by_cases hlt:s<r
   ·have dl:=Wu (show s<r by omega)
    obtain⟨h,hh⟩:=Wr ((s+r)/2);have hhi:((s:Int)+(r:Int))/2=(h:Int):=by omega
    have hih:s<=h:=by omega
    have hhj:h<r:=by omega
    clear hh;obtain⟨k,hk⟩:=Wr (p-h);have hki:(p:Int)-(h:Int)=(k:Int):=by omega
    have hkb:k<b:=by omega
    have HKk:=AA hk;clear hk;obtain⟨x,hx⟩:∃x,l[h]? =some x:=⟨_,AE (by rw[HN.out];omega)⟩;obtain⟨y,hy⟩:∃y,l[k]? =some y:=⟨_,AE (by rw[HN.out];omega)⟩;have HL:=AA (HLe.out wr l k h y x (xY.out.trans HR.out.off) HP.out hy hx);have HXx:=AA hx;have HYy:=AA hy;clear hx hy;cases hlv:lt y x with
    |false=>
     rw[hlv]at HL;go_wp2_with fail
     refine HL.out.mono ?_;rintro e w2 ⟨rfl,hb2⟩;go_wp2;go_roundw
     case rel=>exact⟨h+1,r,by go_num,rfl,⟨by omega,by omega,hr1,.inr ⟨y,x,by rw[Nat.add_sub_cancel,<-HKk.out];exact HYy.out,HXx.out,hlv⟩,H4.out⟩,HR.out.below hb2⟩
     case measure=>simp[intOf];omega
    |true=>
     rw[hlv]at HL;go_wp2_with fail
     refine HL.out.mono ?_;rintro e w2 ⟨rfl,hb2⟩;go_wp2;go_roundw
     case rel=>exact⟨s,h,rfl,rfl,⟨hs1,by omega,by omega,H3.out,.inr ⟨y,x,by rw[<-HKk.out];exact HYy.out,HXx.out,hlv⟩⟩,HR.out.below hb2⟩
     case measure=>simp[intOf];omega
   ·have dl:=Wv (show r<=s by omega)
    obtain rfl:r=s:=by omega
    have hfl:=NL HO.out (l:=l) zC.out (by omega) (by omega) HPp.out HS.out HX.out HY.out ⟨hs1,AB _,hr1,H3.out,H4.out⟩;obtain⟨z1,z2,z3,z4,z5,f1,f2⟩:=hfl;obtain⟨e,he⟩:=Wr (mid+m-r);rw[<-he]at z4 z5 f1 f2;have HF1:=AA f1;have HF2:=AA f2;have hei:(nn:Int)-(r:Int)=(e:Int):=by omega
    have hem1:mid+m<=r+e:=by omega
    have hem2:r+e<=mid+m:=by omega
    have HE:Hid (mid+m=r+e):=Nat.le_antisymm hem1 hem2;clear f1 f2 he H3 H4 HS;obtain⟨q1,hq1⟩:=Wr ((decide (r<m)&&decide (r<mid)));have hCG:=AA hq1;clear hq1;go_upto_region 40 with fail
    go_cut[22,145] (fun ev bv wx=>ev= .int .i64 (e:Int)/\bv= .bool q1/\Row c t (w.alloc (.cells #[.func (.func F) #[] lb,.func (.func f) #[] sb] 190)) g l wx)
    case first=>
     by_cases g1:r<m
     ·have d1:=Wu (show r<m by omega)
      by_cases g2:r<mid
      ·have d2:=Wu (show m<e by omega)
       go_wp2;go_meet;exact⟨rfl,by rw[hCG.out];simp[g1,g2] <;> omega,HR.out⟩
      ·have d2:=Wv (show e<=m by omega)
       go_wp2;go_meet;exact⟨rfl,by rw[hCG.out];simp[g2] <;> omega,HR.out⟩
     ·have d1:=Wv (show m<=r by omega)
      go_wp2;go_meet;exact⟨rfl,by rw[hCG.out];simp[g1] <;> omega,HR.out⟩
    case rest=>
     clear c0 HR;obtain⟨rfl,rfl,hr⟩:=hcut;have HR:=AA hr;clear hr;go_upto_if 145 with fail
     go_cut[22] (fun ev wx=>ev= .int .i64 (e:Int)/\∃l1,Row c t (w.alloc (.cells #[.func (.func F) #[] lb,.func (.func f) #[] sb] 190)) g l1 wx/\I6 lt l l1 a r m mid e b)
     case first=>
      cases q1 with
      |true=>
       have h1:r<m/\r<mid:=by have:=hCG.out;simpa using this.symm
       have b1:r<m:=h1.1;have b2:m<e:=by omega
       have hrc:=OG (.func (.func F) #[] lb) HSw.out r m e (l.take r) (seg l r m) (seg l m e) (l.drop e) wc (by rw[<-JO (by omega) (by omega) (by rw[HN.out];omega)];exact xY.out.trans HR.out.off) (by rw[<-JO (by omega) (by omega) (by rw[HN.out];omega)];exact HN.out) xR (by rw[AZ,HN.out];omega) (by rw[Ca l (by rw[HN.out];omega)];omega) (by rw[Ca l (by rw[HN.out];omega)];omega) (by rw[Ca l (by rw[HN.out];omega)];omega) (by rw[Ca l (by rw[HN.out];omega)];omega);have HRc:=AA hrc;clear hrc;have c0:wc.cell? ⟨w.heap.size,0,none⟩=some (.func (.func F) #[] lb):=(HR.out.box (Blk.new w _ _) (by omega)).cell 0;have c1:wc.cell? ⟨w.heap.size,1,none⟩=some (.func (.func f) #[] sb):=(HR.out.box (Blk.new w _ _) (by omega)).cell 1;go_wp2_with fail
       refine HRc.out.mono ?_;rintro en w2 ⟨rfl,hr2⟩;go_wp2;go_meet;have hkp:=Pq (l:=l) (s:=r) (m:=m) (e:=e) (mid:=mid) (by omega) (by omega) (by rw[HN.out];omega) HE.out;exact⟨rfl,Sy l r m e,HR.out.trans hr2,⟨z1,z2,z4,z5,by rw[HN.out];exact hb,HE.out,HX.out,HY.out,HF1.out,HF2.out,hkp.1,hkp.2.1,hkp.2.2⟩⟩
      |false=>
       have h1:¬(r<m/\r<mid):=by have:=hCG.out;simpa using this.symm
       have hkp:=Pr (l:=l) (s:=r) (m:=m) (e:=e) (mid:=mid) HE.out (by omega);have HH:Hid (I6 lt l l a r m mid e b):=⟨z1,z2,z4,z5,by rw[HN.out];exact hb,HE.out,HX.out,HY.out,HF1.out,HF2.out,CG.refl _ _ _,hkp.1,hkp.2⟩;clear hkp;go_wp2;go_meet;exact⟨rfl,l,HR.out,HH.out⟩
     case rest=>
      clear HR hCG q1;obtain⟨rfl,l1,hr,hh⟩:=hcut;have HR:=AA hr;have HH:=AA hh;clear hr hh HF1 HF2;obtain⟨q2,hq2⟩:=Wr ((decide (a<r)&&decide (r<mid)));have hCH:=AA hq2;clear hq2;go_upto_region 42 with fail
      go_cut[22,158] (fun ev bv wx=>ev= .int .i64 (e:Int)/\bv= .bool q2/\Row c t (w.alloc (.cells #[.func (.func F) #[] lb,.func (.func f) #[] sb] 190)) g l1 wx)
      case first=>
       by_cases g1:a<r
       ·have d1:=Wu (show a<r by omega)
        by_cases g2:r<mid
        ·have d2:=Wu (show r<mid by omega)
         go_wp2;go_meet;exact⟨rfl,by rw[hCH.out];simp[g1,g2] <;> omega,HR.out⟩
        ·have d2:=Wv (show mid<=r by omega)
         go_wp2;go_meet;exact⟨rfl,by rw[hCH.out];simp[g2] <;> omega,HR.out⟩
       ·have d1:=Wv (show r<=a by omega)
        go_wp2;go_meet;exact⟨rfl,by rw[hCH.out];simp[g1] <;> omega,HR.out⟩
      case rest=>
       clear HR;obtain⟨rfl,rfl,hr⟩:=hcut;have HR:=AA hr;clear hr;go_upto_if 158 with fail
       go_cut[22] (fun ev wx=>ev= .int .i64 (e:Int)/\∃l2,Row c t (w.alloc (.cells #[.func (.func F) #[] lb,.func (.func f) #[] sb] 190)) g l2 wx/\CG l1 l2 a mid/\Asc lt (seg l2 a mid))
       case first=>
        cases q2 with
        |true=>
         have h1:a<r/\r<mid:=by have:=hCH.out;simpa using this.symm
         have c0:wc.cell? ⟨w.heap.size,0,none⟩=some (.func (.func F) #[] lb):=(HR.out.box (Blk.new w _ _) (by omega)).cell 0;have c1:wc.cell? ⟨w.heap.size,1,none⟩=some (.func (.func f) #[] sb):=(HR.out.box (Blk.new w _ _) (by omega)).cell 1;have HLc:=AA (hF0.out a r mid l1 wc (by omega) (xY.out.trans HR.out.off) (HH.out.k1.perm.trans HP.out) (HH.out.k1.len.trans HN.out) h1.1 h1.2 (by omega) HH.out.left.1 HH.out.left.2);go_wp2_with fail
         refine HLc.out.mono ?_;rintro en w3 ⟨rfl,l2,hr3,k2,z2'⟩;go_wp2;go_meet;exact⟨rfl,l2,HR.out.trans hr3,k2,z2'⟩
        |false=>
         have h1:¬(a<r/\r<mid):=by have:=hCH.out;simpa using this.symm
         go_wp2;go_meet;exact⟨rfl,l1,HR.out,CG.refl _ _ _,HH.out.leftNone (by omega)⟩
       case rest=>
        clear HR hCH q2;obtain⟨rfl,l2,hr,hk2,hz2⟩:=hcut;have HR:=AA hr;have HK2:=AA hk2;have HZ2:=AA hz2;clear hr hk2 hz2;obtain⟨q3,hq3⟩:=Wr ((decide (mid<e)&&decide (e<b)));have hCZ:=AA hq3;clear hq3;go_upto_region 44 with fail
        go_cut[22,171] (fun ev bv wx=>ev= .int .i64 (e:Int)/\bv= .bool q3/\Row c t (w.alloc (.cells #[.func (.func F) #[] lb,.func (.func f) #[] sb] 190)) g l2 wx)
        case first=>
         by_cases g1:mid<e
         ·have d1:=Wu (show mid<e by omega)
          by_cases g2:e<b
          ·have d2:=Wu (show e<b by omega)
           go_wp2;go_meet;exact⟨rfl,by rw[hCZ.out];simp[g1,g2] <;> omega,HR.out⟩
          ·have d2:=Wv (show b<=e by omega)
           go_wp2;go_meet;exact⟨rfl,by rw[hCZ.out];simp[g2] <;> omega,HR.out⟩
         ·have d1:=Wv (show e<=mid by omega)
          go_wp2;go_meet;exact⟨rfl,by rw[hCZ.out];simp[g1] <;> omega,HR.out⟩
        case rest=>
         clear HR;obtain⟨rfl,rfl,hr⟩:=hcut;have HR:=AA hr;clear hr;cases q3 with
         |true=>
          have h1:mid<e/\e<b:=by have:=hCZ.out;simpa using this.symm
          have c0:wc.cell? ⟨w.heap.size,0,none⟩=some (.func (.func F) #[] lb):=(HR.out.box (Blk.new w _ _) (by omega)).cell 0;have c1:wc.cell? ⟨w.heap.size,1,none⟩=some (.func (.func f) #[] sb):=(HR.out.box (Blk.new w _ _) (by omega)).cell 1;have HLc:=AA (hF0.out mid e b l2 wc (by omega) (xY.out.trans HR.out.off) (HK2.out.perm.trans (HH.out.k1.perm.trans HP.out)) (HK2.out.len.trans (HH.out.k1.len.trans HN.out)) h1.1 h1.2 hb (HH.out.right HK2.out).1 (HH.out.right HK2.out).2);go_wp2_with fail
          refine HLc.out.mono ?_;rintro en w4 ⟨rfl,l3,hr4,k3,z3'⟩;go_wp2;go_end0;obtain⟨q1,q2⟩:=HH.out.done HK2.out HZ2.out k3 z3';exact⟨rfl,l3,(HR.out.trans hr4).off,q1,q2⟩
         |false=>
          have h1:¬(mid<e/\e<b):=by have:=hCZ.out;simpa using this.symm
          go_wp2;go_end0;obtain⟨q1,q2⟩:=HH.out.done HK2.out HZ2.out (CG.refl _ _ _) (HH.out.rightNone HK2.out (by omega));exact⟨rfl,l2,HR.out.off,q1,q2⟩
theorem S0(eg:∀args w,(callFunc F args).run prog w= .ok (.enter F args) w)(ho:Ord lt)(hle:EO c t w0 g l0 lt F lb)(hsw:Es c t w0 g n f sb)(xR:n<=1000000):∀(k:Nat) (a m b:Nat) (l:List α) (w:World),b-a<=k->Row c t w0 g l w->l.Perm l0->l.length=n->a<m->m<b->b<=n->Asc lt (seg l a m)->Asc lt (seg l m b)->Calls prog 180 #[.agg #[.func (.func F) #[] lb,.func (.func f) #[] sb],.int .i64 (a:Int),.int .i64 (m:Int),.int .i64 (b:Int)] w (Dy c t g lt l a b w):=by
 intro k
 induction k with
 |zero=>intro a m b l w hk xP hp hn ham hmb;omega
 |succ k ih=>
  intro a m b l w hk xP hp hn ham hmb hb hX hY;by_cases h1:m=a+1
  ·exact Ps eg ho hle hsw a m b l w xP hp hn xR h1 hmb hb hY
  ·by_cases h2:b=m+1
   ·exact Qw eg ho hle hsw a m b l w xP hp hn xR (by omega) h2 hb hX
   ·exact Sz eg ho hle hsw a m b l w xP hp hn xR (by omega) (by omega) hb hX hY (fun a' m' b' l' w' hk' hr' hp' hn' h3 h4 h5 h6 h7=>ih a' m' b' l' w' (by omega) hr' hp' hn' h3 h4 h5 h6 h7)
end
section
variable {α:Type}{c:α->List Value}{t:TypeId}{w0:World}{g n f F:Nat}{sb lb:Array Value}{lt:α->α->Bool}{l0:List α}
def NM(lt:α->α->Bool)(bs k:Nat)(l:List α):Prop:=
 (∀t,t<k->Asc lt (seg l (t*(2*bs)) ((t+1)*(2*bs))))/\∀t,2*k<=t->Asc lt (seg l (t*bs) ((t+1)*bs))
theorem Er.twos{bs:Nat}{l:List α}(h:Er lt bs l):NM lt bs 0 l:=⟨fun _ h=>absurd h (Nat.not_lt_zero _),fun t _=>h t⟩
theorem NM.step{bs k:Nat}{l l':List α}(h:NM lt bs k l)(hk:CG l l' (k*(2*bs)) ((k+1)*(2*bs)))(hs:Asc lt (seg l' (k*(2*bs)) ((k+1)*(2*bs)))):NM lt bs (k+1) l':=by
 refine⟨fun t ht=>?_,fun t ht=>?_⟩
 ·rcases Nat.lt_or_ge t k with h1|h1
  ·rw[hk.seg_lo (Nat.mul_le_mul_right _ h1)];exact h.1 t h1
  ·obtain rfl:t=k:=by omega
   exact hs
 ·have h1:(k+1)*(2*bs)<=t*bs:=by
   have:=Nat.mul_le_mul_right bs (show 2*(k+1)<=t from ht);rw[Nat.mul_comm 2 (k+1),Nat.mul_assoc]at this;exact this
  rw[hk.seg_hi h1];exact h.2 t (by omega)
theorem NM.parts{bs k:Nat}{l:List α}(h:NM lt bs k l):Asc lt (seg l (k*(2*bs)) (k*(2*bs)+bs))/\Asc lt (seg l (k*(2*bs)+bs) (k*(2*bs)+2*bs)):=by
 have h1:=h.2 (2*k) (AB _);have h2:=h.2 (2*k+1) (by omega);have e1:2*k*bs=k*(2*bs):=by rw[Nat.mul_comm 2 k,Nat.mul_assoc]
 have e2:(2*k+1)*bs=k*(2*bs)+bs:=by rw[Nat.add_mul,e1,Nat.one_mul]
 have e3:(2*k+1+1)*bs=k*(2*bs)+2*bs:=by rw[Nat.add_mul,e2,Nat.one_mul];omega
 rw[e1,e2]at h1;rw[e2,e3]at h2;exact⟨h1,h2⟩
theorem NO(eg:∀args w,(callFunc F args).run prog w= .ok (.enter F args) w)(ho:Ord lt)(hle:EO c t w0 g l0 lt F lb)(hsw:Es c t w0 g n f sb)(l:List α)(w:World)(xP:Row c t w0 g l w)(hp:l.Perm l0)(hn:l.length=n)(xR:n<=1000000):Calls prog 122 #[.agg #[.func (.func F) #[] lb,.func (.func f) #[] sb],.int .i64 (n:Int)] w fun e w'=>e= .returned (.tuple #[])/\∃l',Row c t w g l' w'/\l'.Perm l/\Asc lt l':=by
 have hF5:Hid (∀(a b:Nat) (l':List α) (W:World),Row c t (w.alloc (.cells #[.func (.func F) #[] lb,.func (.func f) #[] sb] 190)) g l' W->l'.Perm l->a<=b->b<=n->Calls prog 179 #[.agg #[.func (.func F) #[] lb,.func (.func f) #[] sb],.int .i64 (a:Int),.int .i64 (b:Int)] W (Dy c t g lt l' a b W)):=
  fun a b l' W hr hq hab hb=>Kg eg ho hle hsw a b l' W (xP.trans hr.off) (hq.trans hp) (hq.length_eq.trans hn) xR hab hb
 have hF6:Hid (∀(a m b:Nat) (l':List α) (W:World),Row c t (w.alloc (.cells #[.func (.func F) #[] lb,.func (.func f) #[] sb] 190)) g l' W->l'.Perm l->a<m->m<b->b<=n->Asc lt (seg l' a m)->Asc lt (seg l' m b)->Calls prog 180 #[.agg #[.func (.func F) #[] lb,.func (.func f) #[] sb],.int .i64 (a:Int),.int .i64 (m:Int),.int .i64 (b:Int)] W (Dy c t g lt l' a b W)):=
  fun a m b l' W hr hq ham hmb hb hX hY=>S0 eg ho hle hsw xR _ a m b l' W (AB _) (xP.trans hr.off) (hq.trans hp) (hq.length_eq.trans hn) ham hmb hb hX hY
 have xY:=AA xP;have HN:=AA hn;clear eg ho hle hsw xP hp hn;have hgw:g<w.heap.size:=xY.out.blk.lt;go_enter func122,ntmps122;go_wp2
 go_loopw [5,6] (fun av bv wr=>∃(k a b:Nat) (l':List α),av= .int .i64 (a:Int)/\bv= .int .i64 (b:Int)/\a=k*20/\b=a+20/\a<=n/\Row c t (w.alloc (.cells #[.func (.func F) #[] lb,.func (.func f) #[] sb] 190)) g l' wr/\l'.Perm l/\∀t,t<k->Asc lt (seg l' (t*20) ((t+1)*20))) (fun av _ _=>n-(intOf av).toNat)
 case atStart=>exact⟨0,0,20,l,rfl,rfl,by omega,by omega,by omega,Row.self (xY.out.blk.alloc _),List.Perm.refl _,fun _ h=>absurd h (Nat.not_lt_zero _)⟩
 case round=>
  obtain⟨k,a,b,l',rfl,rfl,ha,hb,han,hr,hq,hs⟩:=hrel;have HR:=AA hr;have HQ:=AA hq;have HS:=AA hs;clear hr hq hs;have HA:=AA ha;have HB:=AA hb;have hab1:a+20<=b:=by omega
  have hab2:b<=a+20:=by omega
  clear ha hb;have c0:wr.cell? ⟨w.heap.size,0,none⟩=some (.func (.func F) #[] lb):=(HR.out.box (Blk.new w _ _) (by omega)).cell 0;have c1:wr.cell? ⟨w.heap.size,1,none⟩=some (.func (.func f) #[] sb):=(HR.out.box (Blk.new w _ _) (by omega)).cell 1;by_cases hbn:b<=n
  ·have db:decide ((b:Int)<=(n:Int))=true:=by simp;omega
   have HC:=AA (hF5.out a b l' wr HR.out HQ.out (by omega) hbn);go_wp2_with fail
   refine HC.out.mono ?_;rintro en w2 ⟨rfl,l2,hr2,k2,z2⟩;go_wp2;go_roundw
   case rel=>
    refine⟨k+1,b,b+20,l2,rfl,by go_num,by have:=HA.out;have:=HB.out;omega,rfl,hbn,HR.out.trans hr2,k2.perm.trans HQ.out,fun t ht=>?_⟩;have hA:=HA.out;have hB:=HB.out;rcases Nat.lt_or_ge t k with h1|h1
    ·rw[k2.seg_lo (by omega)];exact HS.out t h1
    ·obtain rfl:t=k:=by omega
     rw[show(t+1)*20=b from by omega,<-hA];exact z2
   case measure=>simp[intOf];omega
  ·have db:decide ((b:Int)<=(n:Int))=false:=by simp;omega
   have HC:=AA (hF5.out a n l' wr HR.out HQ.out han (AB _));go_wp2_with fail
   refine HC.out.mono ?_;rintro en w2 ⟨rfl,l2,hr2,k2,z2⟩;have HR2:=AA (HR.out.trans hr2);have HQ2:=AA (k2.perm.trans HQ.out);have HCh:Hid (Er lt 20 l2):=by
    intro t;have hA:=HA.out;have hl2:l2.length=n:=(HQ2.out).length_eq.trans HN.out;rcases Nat.lt_trichotomy t k with h1|h1|h1
    ·rw[k2.seg_lo (by omega)];exact HS.out t h1
    ·subst h1;rw[Dk l2 (by have:=HB.out;omega),hl2,<-hA];exact z2
    ·rw[B4 l2 (.inl (by have:=HB.out;omega))];exact Asc.nil
   clear hr2 k2 z2 c0 c1 HR HQ HS HC;go_wp2
   go_loopw [4] (fun sv wr=>∃(bs:Nat) (l':List α),sv= .int .i64 (bs:Int)/\0<bs/\bs<=2000000/\Row c t (w.alloc (.cells #[.func (.func F) #[] lb,.func (.func f) #[] sb] 190)) g l' wr/\l'.Perm l/\Er lt bs l') (fun sv _=>n-(intOf sv).toNat)
   case atStart=>exact⟨20,l2,rfl,by omega,by omega,HR2.out,HQ2.out,HCh.out⟩
   case round=>
    clear HR2 HQ2 HCh;obtain⟨bs,l3,rfl,hbs,hbs2,hr,hq,hch⟩:=hrel;have HR:=AA hr;have HQ:=AA hq;have HCh:=AA hch;clear hr hq hch;by_cases hlt:bs<n
    ·have dl:=Wu (show bs<n by omega)
     go_wp2
     go_loopw [5,6] (fun av bv wr=>∃(k a b:Nat) (l':List α),av= .int .i64 (a:Int)/\bv= .int .i64 (b:Int)/\a=k*(2*bs)/\b=a+2*bs/\a<=n/\Row c t (w.alloc (.cells #[.func (.func F) #[] lb,.func (.func f) #[] sb] 190)) g l' wr/\l'.Perm l/\NM lt bs k l') (fun av _ _=>n-(intOf av).toNat)
     case atStart=>exact⟨0,0,2*bs,l3,rfl,by go_num,by omega,by omega,by omega,HR.out,HQ.out,HCh.out.twos⟩
     case round=>
      clear HR HQ HCh;obtain⟨k,a,b,l4,rfl,rfl,ha,hb,han,hr,hq,htw⟩:=hrel;have HR:=AA hr;have HQ:=AA hq;have HT:=AA htw;have HA:=AA ha;have HB:=AA hb;have hab1:a+2*bs<=b:=by omega
      have hab2:b<=a+2*bs:=by omega
      clear hr hq htw ha hb;have HL4:Hid (l4.length=n):=HQ.out.length_eq.trans HN.out;have HP1:Hid (Asc lt (seg l4 a (a+bs))/\Asc lt (seg l4 (a+bs) b)):=by
       have h:=HT.out.parts;rw[<-HA.out]at h;rw[HB.out];exact h
      have hCI:Hid (b=(k+1)*(2*bs)):=by
       unfold Hid;rw[HB.out,HA.out,Nat.add_mul,Nat.one_mul]
      have c0:wr.cell? ⟨w.heap.size,0,none⟩=some (.func (.func F) #[] lb):=(HR.out.box (Blk.new w _ _) (by omega)).cell 0;have c1:wr.cell? ⟨w.heap.size,1,none⟩=some (.func (.func f) #[] sb):=(HR.out.box (Blk.new w _ _) (by omega)).cell 1;by_cases hbn:b<=n
      ·have db:decide ((b:Int)<=(n:Int))=true:=by simp;omega
       obtain⟨m,hm⟩:=Wr (a+bs);have hmi:(a:Int)+(bs:Int)=(m:Int):=by omega
       have hm1:m<=a+bs:=by omega
       have hm2:a+bs<=m:=by omega
       rw[<-hm]at HP1;clear hm;have HC:=AA (hF6.out a m b l4 wr HR.out HQ.out (by omega) (by omega) hbn HP1.out.1 HP1.out.2);go_wp2_with fail
       refine HC.out.mono ?_;rintro en w2 ⟨rfl,l5,hr2,k2,z2⟩;go_wp2;go_roundw
       case rel=>
        refine⟨k+1,b,b+2*bs,l5,rfl,by go_num,hCI.out,rfl,hbn,HR.out.trans hr2,k2.perm.trans HQ.out,?_⟩;rw[HA.out,hCI.out]at k2 z2;exact HT.out.step k2 z2
       case measure=>simp[intOf];omega
      ·have db:decide ((b:Int)<=(n:Int))=false:=by simp;omega
       obtain⟨m,hm⟩:=Wr (a+bs);have hmi:(a:Int)+(bs:Int)=(m:Int):=by omega
       have hm1:m<=a+bs:=by omega
       have hm2:a+bs<=m:=by omega
       rw[<-hm]at HP1;clear hm;by_cases hmn:m<n
       ·have dm:=Wu (show m<n by omega)
        have HC:=AA (hF6.out a m n l4 wr HR.out HQ.out (by omega) hmn (AB _) HP1.out.1 (by have h:=HP1.out.2;rw[Dk l4 (by rw[HL4.out];omega),HL4.out]at h;exact h));go_wp2_with fail
        refine HC.out.mono ?_;rintro en w2 ⟨rfl,l5,hr2,k2,z2⟩;go_wp2;go_roundw
        case rel=>
         have hl5:l5.length=n:=k2.len.trans HL4.out;refine⟨2*bs,l5,by go_num,by omega,by omega,HR.out.trans hr2,k2.perm.trans HQ.out,Er.twice (k:=k) (fun t ht=>?_) ?_ (by rw[hl5,<-hCI.out];omega)⟩
         ·rw[k2.seg_lo (by rw[HA.out];exact Nat.mul_le_mul_right _ ht)];exact HT.out.1 t ht
         ·rw[<-hCI.out,<-HA.out,Dk l5 (by rw[hl5];omega),hl5];exact z2
        case measure=>simp[intOf];omega
       ·have dm:=Wv (show n<=m by omega)
        go_wp2;go_roundw
        case rel=>
         refine⟨2*bs,l4,by go_num,by omega,by omega,HR.out,HQ.out,Er.twice (k:=k) HT.out.1 ?_ (by rw[HL4.out,<-hCI.out];omega)⟩;have h:=HP1.out.1;rw[Dk l4 (by rw[HL4.out];omega)]at h;rw[<-hCI.out,<-HA.out,Dk l4 (by rw[HL4.out];omega)];exact h
        case measure=>simp[intOf];omega
    ·have dl:=Wv (show n<=bs by omega)
     go_wp2;go_end0;exact⟨rfl,l3,HR.out.off,HQ.out,HCh.out.all (by rw[HQ.out.length_eq,HN.out];omega)⟩
end
end
section
open Go.RowKit Go.Lib
noncomputable def siT:TypeInfo:=(prog.info? 50).get (by kernel_rfl)
noncomputable def siE:TypeInfo:=(prog.info? 62).get (by kernel_rfl)
theorem NQ:prog.info? 50=some siT:=by kernel_rfl
theorem Qx:prog.info? 62=some siE:=by kernel_rfl
theorem JP:siT.desc= .slice 62:=by kernel_rfl
theorem Qy:siE.size=23:=by kernel_rfl
theorem Qz:∀w,(Extern.Rtype.kind 62).run prog w= .ok 25 w:=fun _=>by kernel_rfl
theorem NR:prog.packed 50=false:=by kernel_rfl
theorem S1:∀w,(isAgg 62).run prog w= .ok true w:=fun _=>by kernel_rfl
theorem Vp(n:Nat)(h:2<=n):swapperK n siE 25=9:=by
 have a:siE.hasPointers=true:=by kernel_rfl
 have b:siE.bytes=88:=by kernel_rfl
 have c0:(n==0)=false:=by simp;omega
 have c1:(n==1)=false:=by simp;omega
 unfold swapperK;rw[a,b,c0,c1];rfl
def Ea(n:Nat):Nat:=if n=0 then 170 else if n=1 then 171 else 178
noncomputable def E5(g n c:Nat):Array Value:=if swapperK n siE 25<=2 then #[]else #[.slice (some ⟨g,0,none⟩) n c,typeHandle prog 62]
theorem NS{w0:World}{g n c:Nat}:Es sgc 62 w0 g n (Ea n) (E5 g n c):=by
 by_cases h:2<=n
 ·have e1:Ea n=178:=by unfold Ea;rw[if_neg (by omega),if_neg (by omega)]
  have e2:E5 g n c=#[.slice (some ⟨g,0,none⟩) n c,typeHandle prog 62]:=by unfold E5;rw[Vp n h];rfl
  rw[e1,e2];exact OF sgc 23 62 62 w0 g n c 178 false
   (fun args W=>run_callFunc_extern func178 (by kernel_rfl) (by kernel_rfl) (by kernel_rfl) (e:=Extern.ReflectliteSwapper.swap false) (by kernel_rfl) args W)
   siE Qx Qy S1 (fun x=>by rw[Array.length_toList];exact x.size_cells) (fun x v hv=>x.one v hv)
 ·intro W l i j _ _ hi hj hne;omega
theorem Uf(g n c:Nat)(w:World):(callFunc 121 #[.iface 50 (.slice (some ⟨g,0,none⟩) n c)]).run prog w= .ok (.value (.func (.func (Ea n)) #[] (E5 g n c))) w:=by
 have hs : ∀ f, prog.funcs.findIdx? (·.name == "internal/reflectlite" ++ ".Swapper$" ++ toString (swapperK n siE 25)) = some f → _ := fun f hf => run_swapper_slice (P := prog) 50 62 siT siE NQ JP Qx 25 Qz (some ⟨g, 0, none⟩) n c f hf w
 have h:=hs (Ea n) (by
  rcases Nat.lt_or_ge n 2 with h|h
  ·rcases Nat.eq_zero_or_pos n with h0|h0
   ·subst h0;kernel_rfl
   ·obtain rfl:n=1:=by omega
    kernel_rfl
  ·rw[Vp n h];unfold Ea;rw[if_neg (by omega),if_neg (by omega)]
   kernel_rfl)
 rw [run_callFunc_extern func121 (by kernel_rfl) (by kernel_rfl) (by kernel_rfl) (e := Extern.ReflectliteSwapper.swapper "internal/reflectlite" (Extern.ReflectliteValue.valueError "Swapper")) (by kernel_rfl), h]
 rfl
theorem Ug(p:Option Addr)(n c:Nat)(w:World):(callFunc 120 #[.iface 50 (.slice p n c)]).run prog w= .ok (.value (.agg #[typeHandle prog 50,.pointer (some ⟨w.heap.size,0,none⟩),.int .u64 151])) (w.alloc (.cells #[.slice p n c] 50)):=by
 rw[run_callFunc_extern func120 (by kernel_rfl) (by kernel_rfl) (by kernel_rfl) (e:=fun args=>Extern.ReflectliteValue.unpack (args.getD 0 (.tuple #[]))) (by kernel_rfl),
  show Sem.run prog ((fun args:Array Value=>Extern.ReflectliteValue.unpack (args.getD 0 (.tuple #[]))) #[.iface 50 (.slice p n c)]) w=_ from run_valueOf_slice (P:=prog) 50 62 siT NQ JP p n c w]
 rfl
theorem Uh(a:Addr)(p:Option Addr)(n c:Nat)(w:World)(ha:w.cell? a=some (.slice p n c)):(callFunc 123 #[.agg #[typeHandle prog 50,.pointer (some a),.int .u64 151]]).run prog w= .ok (.value (.int .i64 n)) w:=by
 rw [run_callFunc_extern func123 (by kernel_rfl) (by kernel_rfl) (by kernel_rfl) (e := Extern.ReflectliteValue.method (Extern.ReflectliteValue.valueError "reflectlite.Value.Len" 0) Extern.ReflectliteValue.len) (by kernel_rfl),
  run_valueLen_slice (P:=prog) 50 62 siT NQ JP NR a p n c w ha]
 rfl
theorem S3:typeHandle prog 50= .pointer (some ⟨prog.globals.size,50,none⟩):=rfl
theorem I7{F:Nat}{lb:Array Value}{lt:Sg->Sg->Bool}(eg:∀args w,(callFunc F args).run prog w= .ok (.enter F args) w)(ho:Ord lt)(l:List Sg)(g n c:Nat)(w:World)(hle:EO sgc 62 w g l lt F lb)(xZ:Blk w g 62 (l.flatMap sgc).toArray)(hn:l.length=n)(xR:n<=1000000):Calls prog 81 #[.iface 50 (.slice (some ⟨g,0,none⟩) n c),.func (.func F) #[] lb] w fun e w'=>e= .returned (.tuple #[])/\∃l',Row sgc 62 w g l' w'/\l'.Perm l/\Asc lt l':=by
 have hv:=fun W=>Ug (some ⟨g,0,none⟩) n c W
 have hs:=fun W=>Uf g n c W
 have hl:=fun a W ha=>Uh a (some ⟨g,0,none⟩) n c W ha
 rw[S3]at hv hl;have HC:Hid (∀W,w.grownBy W (some g)->Blk W g 62 (l.flatMap sgc).toArray->Calls prog 122 #[.agg #[.func (.func F) #[] lb,.func (.func (Ea n)) #[] (E5 g n c)],.int .i64 (n:Int)] W fun e w'=>e= .returned (.tuple #[])/\∃l',Row sgc 62 W g l' w'/\l'.Perm l/\Asc lt l'):=
  fun W hW hB=>NO eg ho (hle.later hW) NS l W (Row.self hB) (List.Perm.refl _) hn xR
 have HB:=AA xZ;generalize Ea n=sf at*;generalize E5 g n c=sa at*;clear eg ho hle xZ hn;go_enter func81,ntmps81;go_wp2_with fail
 refine Eq.mpr (congrArg (Oper.upon _ _ _ _ _) (hl ⟨w.heap.size,0,none⟩ _ (by simp))) ?_;rw[Oper.upon_value];go_wp2_with fail
 refine(HC.out _ (((Al w g).trans (Eg _ _ _)).trans (Eg _ _ _)) ((HB.out.alloc _).alloc _)).mono ?_;rintro en w2 ⟨rfl,l',hr,hp,hs⟩;go_wp2;go_end0;exact⟨rfl,l',hr.off.off,hp,hs⟩
end
end Go.Proofs.YtadllffeoibelaaGreat
