/-
  What these parts of the proof come to, functions walked and plain laws: Pd8, Out1, StQ, St3. No condition.
-/
import Derived.Test.YtadllffeoibelaaGreatS18
import Derived.Test.YtadllffeoibelaaGreatS10
import Derived.Test.YtadllffeoibelaaGreatS6
import Derived.Test.YtadllffeoibelaaGreatS7
import Derived.Test.YtadllffeoibelaaGreatS8
namespace Go.Proofs.YtadllffeoibelaaGreat
set_option maxRecDepth 100000
set_option maxHeartbeats 32000000
set_option linter.all false
section
open Go.RowKit Go.Shelf
section
variable {F f:Nat}{sb lb:Array Value}
theorem Pb(lf sf:Value)(w:World):Calls Tryz.prog 179 #[.agg #[lf,sf],.int .i64 0,.int .i64 0] w fun e w'=>e= .returned (.tuple #[])∧Below w.heap.size w w':=by
 go_enter Tryz.func179,Tryz.ntmps179;go_wp2
 go_loopw [6] (fun iv wr=>iv= .int .i64 1∧Below w.heap.size w wr) (fun _ _=>0)
 case atStart=>exact⟨by go_num,(AC _ _).alloc (AB _) _⟩
 case round=>
  obtain⟨rfl,hb⟩:=hrel;go_wp2;go_end0;exact⟨rfl,hb⟩
theorem LL(lf sf:Value)(L:Int)(w:World):Calls Tryz.prog 169 #[.agg #[lf,sf],.int .i64 0,.int .i64 0,.int .i64 L] w fun e w'=>e= .returned (.tuple #[])∧Below w.heap.size w w':=by
 have HI:=AA (fun W=>Pb lf sf W);go_enter Tryz.func169,Tryz.ntmps169;go_upto_region 3 with fail
 go_loopw [1,2,3,8,9] (fun av bv lv xv yv wr=>av= .int .i64 0∧bv= .int .i64 0∧lv= .int .i64 L∧xv= .bool true∧yv= .bool true∧wr=w.alloc (.cells #[lf,sf] 190)) (fun _ _ _ _ _ _=>0)
 case atStart=>exact⟨rfl,rfl,rfl,rfl,rfl,rfl⟩
 case round=>
  obtain⟨rfl,rfl,rfl,rfl,rfl,hwr⟩:=hrel;subst hwr;go_wp2_with (go_at_call 179;refine(HI.out _).mono ?_;rintro en w2 ⟨rfl,hb⟩)
  refine bodyPost_ret (results_none rfl _ _ _) rfl ?_;exact⟨rfl,((AC _ _).alloc (AB _) _).trans (hb.mono (by simp))⟩
end
theorem GQ:∀f x,Lib.bitLenAux f x≤f
 |0,x=>by simp[Lib.bitLenAux]
 |f+1,x=>by
  have:=GQ f (x/2);unfold Lib.bitLenAux;split <;> omega
theorem FY(x:Nat):Lib.bitLen x≤64:=GQ 64 x
def Fo(n:Nat):Nat:=if n=0 then 170 else if n=1 then 171 else 178
structure SlT (t e:TypeId)(m:Nat):Prop where
 info:∃i,Tryz.prog.info? t=some i∧i.desc= .slice e
 packed:Tryz.prog.packed t=false
 elem:∃ie,Tryz.prog.info? e=some ie∧ie.size=m∧∀n,2≤n→Lib.swapperK n ie 25=9
 kind:∀w,(Extern.Rtype.kind e).run Tryz.prog w= .ok 25 w
 agg:∀w,(isAgg e).run Tryz.prog w= .ok true w
theorem LM{α:Type}{enc:α→List Value}{m:Nat}{e t:TypeId}(S:SlT t e m)(hl:∀x,(enc x).length=m)(h1:∀x,∀v∈enc x,v.oneCell'=true):Lit enc m e 178 false:=by
 obtain⟨ie,h2,h3,_⟩:=S.elem;exact⟨fun args W=>run_callFunc_extern Tryz.func178 (by kernel_rfl) (by kernel_rfl) (by kernel_rfl) (e:=Extern.ReflectliteSwapper.swap false) (by kernel_rfl) args W,⟨ie,h2,h3⟩,S.agg,hl,h1⟩
theorem Gv {ie : TypeInfo} (h4 : ∀ n,2≤n→Lib.swapperK n ie 25 = 9) (n : Nat) : Tryz.prog.funcs.findIdx? (·.name == "internal/reflectlite" ++ ".Swapper$" ++ toString (Lib.swapperK n ie 25)) = some (Fo n) := by
 rcases Nat.lt_or_ge n 2 with h|h
 ·rcases Nat.eq_zero_or_pos n with h0|h0
  ·subst h0;kernel_rfl
  ·obtain rfl:n=1:=by omega
   kernel_rfl
 ·rw[h4 n h];unfold Fo;rw[if_neg (by omega),if_neg (by omega)]
  kernel_rfl
theorem Gw{α:Type}[Inhabited α]{F:Nat}{lb:Array Value}{lt:α→α→Bool}{t e:TypeId}{m:Nat}(S:SlT t e m)(c:Be α)(hl:∀x,(c.enc x).length=m)(hm0:0<m)(h1:∀x,∀v∈c.enc x,v.oneCell'=true)(eg:∀args w,(callFunc F args).run Tryz.prog w= .ok (.enter F args) w)(l:List α)(g n cap:Nat)(w:World)(hle:Fr c e w g l lt F lb)(hblk:Blk w g e (l.flatMap c.enc++c.tail).toArray)(hn:l.length=n)(hsm:n≤1000000):Calls Tryz.prog 116 #[.iface t (.slice (some ⟨g,0,none⟩) n cap),.func (.func F) #[] lb] w fun e' w'=>e'= .returned (.tuple #[])∧BC c e g l w w':=by
 obtain⟨i,hi,hd⟩:=S.info;obtain⟨ie,h2,h3,h4⟩:=S.elem;have hrow:BC c e g l w (sliceWorld Tryz.prog Jb t (some ⟨g,0,none⟩) n cap w):=⟨l,((Bx.self hblk).alloc _).alloc _,List.Perm.refl _⟩;have H9:=LM (enc:=c.enc) S hl h1;refine Any.sort_Slice_of_pdq Ho t e i ie hi hd S.packed h2 25 S.kind (some ⟨g,0,none⟩) n cap (by omega) (Fo n) (Gv h4 n) (.func F) #[] lb w (fun w'=>BC c e g l w w') ?_;by_cases h:2≤n
 ·have e1:Fo n=178:=by unfold Fo;rw[if_neg (by omega),if_neg (by omega)]
  have e2:sliceBound Tryz.prog e ie 25 (some ⟨g,0,none⟩) n cap=#[.slice (some ⟨g,0,none⟩) n cap,typeHandle Tryz.prog e]:=by unfold sliceBound;rw[h4 n h];rfl
  rw[e1,e2];have HS:Srt c e w g n 178 F #[.slice (some ⟨g,0,none⟩) n cap,typeHandle Tryz.prog e] lb lt l:=⟨eg,hle,IF n cap H9 e w,hn,hsm⟩;exact(IN HS (OH n cap H9 hm0 e w F lb l hn hsm) n 0 n (Lib.bitLen n) _ hrow (Nat.zero_le _) (AB _) (by omega) (by have:=FY n;omega)).mono fun e' w' h=>⟨h.1,hrow.trans h.2⟩
 ·have HS:Srt c e w g n (Fo n) F (sliceBound Tryz.prog e ie 25 (some ⟨g,0,none⟩) n cap) lb lt l:=⟨eg,hle,fun _ _ _ _ _ _ _ _ h'=>absurd h' h,hn,hsm⟩;exact(IN HS (fun a b V _ hab hb=>absurd hb (by omega)) n 0 n (Lib.bitLen n) _ hrow (Nat.zero_le _) (AB _) (by omega) (by have:=FY n;omega)).mono fun e' w' h=>⟨h.1,hrow.trans h.2⟩
theorem Gx{F:Nat}{lb:Array Value}{t e:TypeId}{m:Nat}(S:SlT t e m)(cap:Nat)(w:World):Calls Tryz.prog 116 #[.iface t (.slice none 0 cap),.func (.func F) #[] lb] w fun e' w'=>e'= .returned (.tuple #[])∧Below w.heap.size w w':=by
 obtain⟨i,hi,hd⟩:=S.info;obtain⟨ie,h2,h3,h4⟩:=S.elem;refine Any.sort_Slice_of_pdq Ho t e i ie hi hd S.packed h2 25 S.kind none 0 cap (by omega) (Fo 0) (Gv h4 0) (.func F) #[] lb w (fun w'=>Below w.heap.size w w') ?_;refine(LL _ _ _ _).mono fun e' w' h=>⟨h.1,?_⟩
 have hb:Below w.heap.size w (sliceWorld Tryz.prog Jb t none 0 cap w):=((AC _ _).alloc (AB _) _).alloc (by simp) _;exact hb.trans (h.2.mono hb.size)
end
section
open Go.RowKit
attribute [local go_sem ↓] Go.wp_at_zero Go.wp_at_succ An Au Av Aw Gq
attribute [local go_sem] BD BH BI BJ Jn AN AW AQ
theorem Bx.oc{T:List Value}{w0 W:World}{g i:Nat}{l:List Oc}{x:Oc}(h:Bx ⟨occ,T⟩ 142 w0 g l W)(hx:l[i]? =some x):AK W g (i*11) 11=some x.cells:=by
 refine Bo (fun j u hu=>?_) rfl;have:=D3 (c:=⟨occ,T⟩) (m:=11) (fun _=>rfl) h.blk i j x u hx (by simpa using hu);rwa[Nat.zero_add]at this
theorem MX(T:List Value)(B g n c:Nat)(l0:List Oc)(w0:World)(hB:Blk w0 B 103 #[.slice (some ⟨g,0,none⟩) n c])(hne:B≠g)(hn:l0.length=n):Fr ⟨occ,T⟩ 142 w0 g l0 K4 117 #[.pointer (some ⟨B,0,none⟩)]:=by
 intro W l i j x y hr hp hx hy;have hi:i<n:=by rw[←hn,←hp.length_eq];exact(AG.1 hx).1
 have hj:j<n:=by rw[←hn,←hp.length_eq];exact(AG.1 hy).1
 have hc0:W.cell? ⟨B,0,none⟩=some (.slice (some ⟨g,0,none⟩) n c):=(hr.box hB hne).cell 0;have HRows:Hid (∀V,Below W.heap.size W V→V.cell? ⟨B,0,none⟩=some (.slice (some ⟨g,0,none⟩) n c)∧AK V g (i*11) 11=some x.cells∧AK V g (j*11) 11=some y.cells):=
  fun V hV=>⟨(hV.cell (p:=⟨B,0,none⟩) (hr.box hB hne).lt).trans hc0,Ay (hr.oc hx) hV hr.blk.lt,Ay (hr.oc hy) hV hr.blk.lt⟩
 have HL:Hid (∀V,Below W.heap.size W V→Calls Tryz.prog 118 #[x.val,y.val] V (Al V (K4 x y))):=
  fun V hV=>MM x y V
 obtain⟨r,hrr⟩:∃r,r=K4 x y:=⟨_,rfl⟩;rw[←hrr]at HL ⊢;clear hrr hc0 hr hp hx hy hB hn;have hbw:Below W.heap.size W W:=AC _ _;show Calls Tryz.prog 117 #[.int .i64 (i:Int),.int .i64 (j:Int),.pointer (some ⟨B,0,none⟩)] W _;go_enter Tryz.func117,Tryz.ntmps117;go_upto_region 1 with fail
 refine rgD (fun w'=>w'.cell? ⟨B,0,none⟩=some (.slice (some ⟨g,0,none⟩) n c)∧AK w' g (i*11) 11=some x.cells∧AK w' g (j*11) 11=some y.cells) (HRows.out _ hbw.drew) fun hHeld=>?_
 refine tkD 6 0 ?_;go_frame;refine tkD 7 1 ?_;go_frame;refine tkD 8 2 ?_;go_frame;refine tkD 9 3 ?_;go_frame;refine tkD 10 4 ?_;go_frame;refine tkD 11 5 ?_;go_frame;refine tkD 12 6 ?_;go_frame;refine tkD 13 7 ?_;go_frame;refine rd1 8 fun K hK=>?_
 go_simp;refine(HL.out _ hbw.drew).mono ?_;rintro en w2 ⟨rfl,hb2⟩;have hbw2:=hbw.drew.trans (hb2.mono hbw.size);go_wp2_with fail
 refine hK.out _ _ (HRows.out _ hbw2) (fun hHeld=>?_);clear hK K;try go_frame
 refine tkD 5 9 ?_;go_frame;refine dnD ?_;go_wp2;go_ret;exact⟨rfl,hbw2⟩
noncomputable def ocT:TypeInfo:=(Tryz.prog.info? 103).get (by kernel_rfl)
noncomputable def ocE:TypeInfo:=(Tryz.prog.info? 142).get (by kernel_rfl)
theorem Ti(n:Nat)(h:2≤n):Lib.swapperK n ocE 25=9:=by
 have a:ocE.hasPointers=false:=by kernel_rfl
 have b:ocE.bytes=32:=by kernel_rfl
 have c0:(n==0)=false:=by simp;omega
 have c1:(n==1)=false:=by simp;omega
 unfold Lib.swapperK;rw[a,b,c0,c1];rfl
theorem So:Tryz.prog.info? 103=some ocT:=by kernel_rfl
theorem Sp:Tryz.prog.info? 142=some ocE:=by kernel_rfl
theorem Pc:ocT.desc= .slice 142:=by kernel_rfl
theorem Pd:ocE.size=11:=by kernel_rfl
theorem Pe:SlT 103 142 11:=
 ⟨⟨ocT,So,Pc⟩,by kernel_rfl,⟨ocE,Sp,Pd,Ti⟩,fun _=>by kernel_rfl,fun _=>by kernel_rfl⟩
theorem MY(args:Array Value)(W:World):(callFunc 117 args).run Tryz.prog W= .ok (.enter 117 args) W:=enters_of Tryz.func117 (by kernel_rfl) rfl args W
end
section

section
variable {α:Type}{lt:α→α→Bool}
def Cp(l:List α)(a m b d:Nat):List α:=l.take a++(((seg l m b).take d++(seg l a m++(seg l m b).drop d))++l.drop b)
def Dy(l:List α)(a m b d:Nat):List α:=l.take a++(((seg l a m).take d++(seg l m b++(seg l a m).drop d))++l.drop b)
theorem Hw{l:List α}{a m b:Nat}(ham:a≤m)(hmb:m≤b)(hb:b≤l.length):Cp l a m b 0=l:=by
 unfold Cp;rw[List.take_zero,List.drop_zero,List.nil_append,←C5 l ham hmb];exact(Fk l (AF ham hmb) hb).1.symm
theorem Jy{l:List α}{a m b:Nat}(ham:a≤m)(hmb:m≤b)(hb:b≤l.length):Dy l a m b (m-a)=l:=by
 unfold Dy;have e:(seg l a m).length=m-a:=CX l (by omega);have t1:(seg l a m).take (m-a)=seg l a m:=AT (by omega);have t2:(seg l a m).drop (m-a)=[]:=List.drop_eq_nil_of_le (by omega);rw[t1,t2,List.append_nil,←C5 l ham hmb];exact(Fk l (AF ham hmb) hb).1.symm
theorem FZ{l:List α}{a:Nat}(h:a<l.length):seg l a (a+1)=[l[a]]:=by
 unfold seg;rw[List.drop_take,show a+1-a=1 from by omega,List.drop_eq_getElem_cons h];rfl
theorem LN{l:List α}{a b d:Nat}(hb:b≤l.length)(hd:a+1+d<b):CO (Cp l a (a+1) b d) (a+d) (a+d+1)=Cp l a (a+1) b (d+1):=by
 have hY:(seg l (a+1) b).length=b-(a+1):=CX l hb;have hx:d<(seg l (a+1) b).length:=by omega
 unfold Cp;rw[FZ (l:=l) (a:=a) (by omega),List.drop_eq_getElem_cons hx,List.take_succ_eq_append_getElem hx];have h:=ND (l.take a++(seg l (a+1) b).take d) ((seg l (a+1) b).drop (d+1)++l.drop b) l[a] (seg l (a+1) b)[d];have e1:(l.take a++(seg l (a+1) b).take d).length=a+d:=by rw[AI,AZ,AZ];omega
 rw[e1]at h;simp only[List.append_assoc,List.cons_append,List.nil_append]at h ⊢;exact h
theorem MZ{l:List α}{a m d:Nat}(hb:m+1≤l.length)(hd:a+d+1≤m):CO (Dy l a m (m+1) (d+1)) (a+d+1) (a+d)=Dy l a m (m+1) d:=by
 have hX:(seg l a m).length=m-a:=CX l (by omega);have hx:d<(seg l a m).length:=by omega
 unfold Dy;rw[FZ (l:=l) (a:=m) (by omega),List.drop_eq_getElem_cons hx,List.take_succ_eq_append_getElem hx];have h:=Ja (l.take a++(seg l a m).take d) ((seg l a m).drop (d+1)++l.drop (m+1)) (seg l a m)[d] l[m];have e1:(l.take a++(seg l a m).take d).length=a+d:=by rw[AI,AZ,AZ];omega
 rw[e1]at h;simp only[List.append_assoc,List.cons_append,List.nil_append]at h ⊢;exact h
theorem LO(ho:Ord lt){l:List α}{a b i:Nat}(hb:b≤l.length)(hY:Asc lt (seg l (a+1) b))(hi:a+1≤i)(hib:i≤b)(h1:i=a+1∨∃u x,l[i-1]? =some u∧l[a]? =some x∧lt u x=true)(h2:i=b∨∃u x,l[i]? =some u∧l[a]? =some x∧lt u x=false):CB l (Cp l a (a+1) b (i-(a+1))) a b∧Asc lt (seg (Cp l a (a+1) b (i-(a+1))) a b):=by
 have hYl:(seg l (a+1) b).length=b-(a+1):=CX l hb;have hal:a<l.length:=by omega
 have hP:(l.take a).length=a:=by rw[AZ];omega
 have ea:l[a]? =some l[a]:=AE hal;have h:=PC ho (P:=l.take a) (S:=l.drop b) (Y:=seg l (a+1) b) (x:=l[a]) (a:=a) (b:=b) (i:=i-(a+1)) hP (by omega) hY (by omega)
  (by
   rcases h1 with h|⟨u,x,hu,hx,hux⟩
   ·left;omega
   ·rcases Nat.eq_zero_or_pos (i-(a+1))with h0|h0
    ·exact .inl h0
    ·rw[ea]at hx;cases hx;refine .inr ⟨u,?_,hux⟩;rw[ED l (by omega),←hu];congr 1;omega)
  (by
   rcases h2 with h|⟨u,x,hu,hx,hux⟩
   ·left;omega
   ·rcases Nat.lt_or_ge i b with hlt|hge
    ·rw[ea]at hx;cases hx;refine .inr ⟨u,?_,hux⟩;rw[ED l (by omega),←hu];congr 1;omega
    ·left;omega)
 have e:l.take a++(l[a]::seg l (a+1) b++l.drop b)=l:=by
  have:=Hw (l:=l) (a:=a) (m:=a+1) (b:=b) (by omega) (by omega) hb;unfold Cp at this;rw[FZ hal]at this;simpa using this
 have e2:Cp l a (a+1) b (i-(a+1))=l.take a++(((seg l (a+1) b).take (i-(a+1))++l[a]::(seg l (a+1) b).drop (i-(a+1)))++l.drop b):=by
  unfold Cp;rw[FZ hal];rfl
 rw[e,←e2]at h;exact h
theorem Ma(ho:Ord lt){l:List α}{a m i:Nat}(hb:m+1≤l.length)(hX:Asc lt (seg l a m))(hi:a≤i)(him:i≤m)(h1:i=a∨∃u y,l[i-1]? =some u∧l[m]? =some y∧lt y u=false)(h2:i=m∨∃u y,l[i]? =some u∧l[m]? =some y∧lt y u=true):CB l (Dy l a m (m+1) (i-a)) a (m+1)∧Asc lt (seg (Dy l a m (m+1) (i-a)) a (m+1)):=by
 have hXl:(seg l a m).length=m-a:=CX l (by omega);have hml:m<l.length:=by omega
 have hP:(l.take a).length=a:=by rw[AZ];omega
 have em:l[m]? =some l[m]:=AE hml;have h:=Q8 ho (P:=l.take a) (S:=l.drop (m+1)) (X:=seg l a m) (y:=l[m]) (a:=a) (b:=m+1) (i:=i-a) hP (by omega) hX (by omega)
  (by
   rcases h1 with h|⟨u,x,hu,hx,hux⟩
   ·left;omega
   ·rcases Nat.eq_zero_or_pos (i-a)with h0|h0
    ·exact .inl h0
    ·rw[em]at hx;cases hx;refine .inr ⟨u,?_,hux⟩;rw[ED l (by omega),←hu];congr 1;omega)
  (by
   rcases h2 with h|⟨u,x,hu,hx,hux⟩
   ·left;omega
   ·rcases Nat.lt_or_ge i m with hlt|hge
    ·rw[em]at hx;cases hx;refine .inr ⟨u,?_,hux⟩;rw[ED l (by omega),←hu];congr 1;omega
    ·left;omega)
 have e:l.take a++((seg l a m++[l[m]])++l.drop (m+1))=l:=by
  have:=Jy (l:=l) (a:=a) (m:=m) (b:=m+1) (by omega) (by omega) hb;unfold Dy at this;have t1:(seg l a m).take (m-a)=seg l a m:=AT (by omega);have t2:(seg l a m).drop (m-a)=[]:=List.drop_eq_nil_of_le (by omega);rw[FZ hml,t1,t2,List.append_nil]at this;exact this
 have e2:Dy l a m (m+1) (i-a)=l.take a++(((seg l a m).take (i-a)++l[m]::(seg l a m).drop (i-a))++l.drop (m+1)):=by
  unfold Dy;rw[FZ hml];rfl
 rw[e,←e2]at h;exact h
def RK(l:List α)(s m e:Nat):List α:=l.take s++(seg l m e++(seg l s m++l.drop e))
theorem It{l:List α}{s m e:Nat}(hsm:s≤m)(hme:m≤e)(he:e≤l.length):l=l.take s++(seg l s m++(seg l m e++l.drop e)):=by
 rw[←List.append_assoc (seg l s m),←C5 l hsm hme];exact(Fk l (AF hsm hme) he).1
theorem OP{l:List α}{s m e mid:Nat}(hsm:s≤m)(hme:m≤e)(he:e≤l.length)(hmid:mid+m=s+e):CB l (RK l s m e) s e∧seg (RK l s m e) s mid=seg l m e∧seg (RK l s m e) mid e=seg l s m:=by
 have h1:(l.take s).length=s:=by rw[AZ];omega
 have h2:(seg l s m).length=m-s:=CX l (by omega);have h3:(seg l m e).length=e-m:=CX l he;refine⟨?_,?_,?_⟩
 ·have:=IW (P:=l.take s) (X:=seg l s m++seg l m e) (X':=seg l m e++seg l s m) (S:=l.drop e) (a:=s) (b:=e) h1 (by rw[h1,AI];omega) List.perm_append_comm;rw[List.append_assoc,List.append_assoc,←It hsm hme he]at this;exact this
 ·exact Gk h1 (by omega)
 ·have:=Gk (P:=l.take s++seg l m e) (X:=seg l s m) (S:=l.drop e) (a:=mid) (b:=e) (by rw[AI];omega) (by rw[AI];omega);rwa[List.append_assoc]at this
theorem OQ{l:List α}{s m e mid:Nat}(hmid:mid+m=s+e)(h:s=m∨m=e):seg l s mid=seg l m e∧seg l mid e=seg l s m:=by
 rcases h with rfl|rfl
 ·obtain rfl:mid=e:=by omega
  exact⟨rfl,by rw[Bu l (.inr (AB _)),Bu l (.inr (AB _))]⟩
 ·obtain rfl:mid=s:=by omega
  exact⟨by rw[Bu l (.inr (AB _)),Bu l (.inr (AB _))],rfl⟩
end
end
section
open Go.RowKit
section
variable {α:Type}{c:α→List Value}{t:TypeId}{w0:World}{g n f F:Nat}{sb lb:Array Value}{lt:α→α→Bool}{l0:List α}
def Tj(lt:α→α→Bool)(l:List α)(a m b i j:Nat):Prop:=
 m≤i∧i≤j∧j≤b∧(i=m∨∃u x,l[i-1]? =some u∧l[a]? =some x∧lt u x=true)∧(j=b∨∃u x,l[j]? =some u∧l[a]? =some x∧lt u x=false)
def Tk(lt:α→α→Bool)(l:List α)(a m i j:Nat):Prop:=
 a≤i∧i≤j∧j≤m∧(i=a∨∃u y,l[i-1]? =some u∧l[m]? =some y∧lt y u=false)∧(j=m∨∃u y,l[j]? =some u∧l[m]? =some y∧lt y u=true)
def SV(lt:α→α→Bool)(l:List α)(p s0 r0 s r:Nat):Prop:=
 s0≤s∧s≤r∧r≤r0∧(s=s0∨∃u x,l[p-(s-1)]? =some u∧l[s-1]? =some x∧lt u x=false)∧(r=r0∨∃u x,l[p-r]? =some u∧l[r]? =some x∧lt u x=true)
theorem OR(eg:∀args w,(callFunc F args).run Tryz.prog w= .ok (.enter F args) w)(ho:Ord lt)(hle:D2 c t w0 g l0 lt F lb)(hsw:EM c t w0 g n f sb)(a m b:Nat)(l:List α)(w:World)(hrow:Row c t w0 g l w)(hp:l.Perm l0)(hn:l.length=n)(hsmall:n≤1000000)(hm:m=a+1)(hmb:m<b)(hb:b≤n)(hY:Asc lt (seg l m b)):Calls Tryz.prog 180 #[.agg #[.func (.func F) #[] lb,.func (.func f) #[] sb],.int .i64 (a:Int),.int .i64 (m:Int),.int .i64 (b:Int)] w (Da c t g lt l a b w):=by
 have HO:=AA ho;clear ho;have HLe:=AA hle;clear hle;have HSw:=AA hsw;clear hsw;have HRow:=AA hrow;clear hrow;have HP:=AA hp;clear hp;have HN:=AA hn;clear hn;have HY:=AA hY;clear hY;have HM:=AA hm;have hgw:g<w.heap.size:=HRow.out.blk.lt;have hma:(m:Int)-(a:Int)=1:=by omega
 have ham:a<m:=by omega
 clear hm;go_enter Tryz.func180,Tryz.ntmps180;go_wp2
 go_loopw [8,9] (fun iv jv wr=>∃(i j:Nat),iv= .int .i64 (i:Int)∧jv= .int .i64 (j:Int)∧Tj lt l a m b i j∧Row c t (w.alloc (.cells #[.func (.func F) #[] lb,.func (.func f) #[] sb] 190)) g l wr) (fun iv jv _=>(intOf jv).toNat-(intOf iv).toNat)
 case atStart=>exact⟨m,b,rfl,rfl,⟨AB _,by omega,AB _,.inl rfl,.inl rfl⟩,Row.self (HRow.out.blk.alloc _)⟩
 case round=>
  obtain⟨i,j,rfl,rfl,⟨hi1,hij,hjb,h1,h2⟩,hr⟩:=hrel;have H1:=AA h1;have H2:=AA h2;have HR:=AA hr;clear h1 h2 hr;have c0:wr.cell? ⟨w.heap.size,0,none⟩=some (.func (.func F) #[] lb):=(HR.out.box (Blk.new w _ _) (by omega)).cell 0;by_cases hlt:i<j
  ·have dl:decide ((i:Int)<(j:Int))=true:=by simp;omega
   obtain⟨h,hh⟩:∃h,h=(i+j)/2:=⟨_,rfl⟩;have hhi:((i:Int)+(j:Int))/2=(h:Int):=by omega
   have hih:i≤h:=by omega
   have hhj:h<j:=by omega
   clear hh;obtain⟨x,hx⟩:∃x,l[h]? =some x:=⟨_,AE (by rw[HN.out];omega)⟩;obtain⟨y,hy⟩:∃y,l[a]? =some y:=⟨_,AE (by rw[HN.out];omega)⟩;have HL:=AA (HLe.out wr l h a x y (HRow.out.trans HR.out.off) HP.out hx hy);have HX:=AA hx;have HYy:=AA hy;clear hx hy;cases hlv:lt x y with
   |true=>
    rw[hlv]at HL;go_wp2_with fail
    refine HL.out.mono ?_;rintro e w2 ⟨rfl,hb2⟩;go_wp2;go_roundw
    case rel=>exact⟨h+1,j,by go_num,rfl,⟨by omega,by omega,hjb,.inr ⟨x,y,HX.out,HYy.out,hlv⟩,H2.out⟩,HR.out.below hb2⟩
    case measure=>simp[intOf];omega
   |false=>
    rw[hlv]at HL;go_wp2_with fail
    refine HL.out.mono ?_;rintro e w2 ⟨rfl,hb2⟩;go_wp2;go_roundw
    case rel=>exact⟨i,h,rfl,rfl,⟨hi1,by omega,by omega,H1.out,.inr ⟨x,y,HX.out,HYy.out,hlv⟩⟩,HR.out.below hb2⟩
    case measure=>simp[intOf];omega
  ·have dl:decide ((i:Int)<(j:Int))=false:=by simp;omega
   obtain rfl:j=i:=by omega
   go_wp2
   go_loopw [11] (fun kv wr=>∃d:Nat,kv= .int .i64 ((a+d:Nat):Int)∧d≤j-m∧Row c t (w.alloc (.cells #[.func (.func F) #[] lb,.func (.func f) #[] sb] 190)) g (Cp l a m b d) wr) (fun kv _=>b-(intOf kv).toNat)
   case atStart=>exact⟨0,rfl,Nat.zero_le _,by rw[Hw (by omega) (by omega) (by rw[HN.out];exact hb)];exact HR.out⟩
   case round=>
    clear c0;obtain⟨d,rfl,hd,hr⟩:=hrel;clear HR;have HR:=AA hr;clear hr;obtain⟨k,hk⟩:∃k,k=a+d:=⟨_,rfl⟩;have HK:=AA hk;have hak:a≤k:=by omega
    rw[←hk];by_cases hlt2:d<j-m
    ·have dk:decide ((k:Int)<(j:Int)-1)=true:=by simp;omega
     have hkb:k+1<b:=by omega
     have c1:wr.cell? ⟨w.heap.size,1,none⟩=some (.func (.func f) #[] sb):=(HR.out.box (Blk.new w _ _) (by omega)).cell 1;have hlen:(Cp l a m b d).length=n:=by
      have e:=(Ky (Cp l a m b d) 0 0);have:=HN.out;unfold Cp;simp only[AI,AZ,List.length_drop];rw[CX l (by omega),CX l (by omega)];omega
     obtain⟨W',hrun,hrow'⟩:=HSw.out wr _ k (k+1) (HRow.out.trans HR.out.off) hlen (by omega) (by omega) (by omega);rw[show((k+1:Nat):Int)=(k:Int)+1 from by omega]at hrun;have hs:CO (Cp l a m b d) k (k+1)=Cp l a m b (d+1):=by
      rw[HK.out,HM.out];exact LN (by rw[HN.out];exact hb) (by have:=HM.out;omega)
     rw[hs]at hrow';have HR':=AA (HR.out.trans hrow');clear hs hrow' hlen hk;go_wp2;go_roundw
     case rel=>exact⟨d+1,by rw[HK.out];go_num,by omega,HR'.out⟩
     case measure=>simp[intOf];omega
    ·have dk:decide ((k:Int)<(j:Int)-1)=false:=by simp;omega
     have hd2:d=j-m:=by omega
     have HD:=AA hd2;clear hd2 hk;go_wp2;go_end0;have hM:=HM.out;subst hM;obtain⟨q1,q2⟩:=LO HO.out (l:=l) (a:=a) (b:=b) (i:=j) (by rw[HN.out];exact hb) HY.out (by omega) hjb H1.out H2.out;rw[←HD.out]at q1 q2;exact⟨rfl,_,HR.out.off,q1,q2⟩
theorem Pf(eg:∀args w,(callFunc F args).run Tryz.prog w= .ok (.enter F args) w)(ho:Ord lt)(hle:D2 c t w0 g l0 lt F lb)(hsw:EM c t w0 g n f sb)(a m b:Nat)(l:List α)(w:World)(hrow:Row c t w0 g l w)(hp:l.Perm l0)(hn:l.length=n)(hsmall:n≤1000000)(ham:a+1<m)(hm:b=m+1)(hb:b≤n)(hX:Asc lt (seg l a m)):Calls Tryz.prog 180 #[.agg #[.func (.func F) #[] lb,.func (.func f) #[] sb],.int .i64 (a:Int),.int .i64 (m:Int),.int .i64 (b:Int)] w (Da c t g lt l a b w):=by
 have HO:=AA ho;clear ho;have HLe:=AA hle;clear hle;have HSw:=AA hsw;clear hsw;have HRow:=AA hrow;clear hrow;have HP:=AA hp;clear hp;have HN:=AA hn;clear hn;have HX0:=AA hX;clear hX;have HM:=AA hm;have hgw:g<w.heap.size:=HRow.out.blk.lt;have hbm:(b:Int)-(m:Int)=1:=by omega
 have hmb:m<b:=by omega
 have dma:((m:Int)-(a:Int)==1)=false:=by simp;omega
 clear hm;go_enter Tryz.func180,Tryz.ntmps180;go_wp2
 go_loopw [12,13] (fun iv jv wr=>∃(i j:Nat),iv= .int .i64 (i:Int)∧jv= .int .i64 (j:Int)∧Tk lt l a m i j∧Row c t (w.alloc (.cells #[.func (.func F) #[] lb,.func (.func f) #[] sb] 190)) g l wr) (fun iv jv _=>(intOf jv).toNat-(intOf iv).toNat)
 case atStart=>exact⟨a,m,rfl,rfl,⟨AB _,by omega,AB _,.inl rfl,.inl rfl⟩,Row.self (HRow.out.blk.alloc _)⟩
 case round=>
  obtain⟨i,j,rfl,rfl,⟨hi1,hij,hjb,h1,h2⟩,hr⟩:=hrel;have H1:=AA h1;have H2:=AA h2;have HR:=AA hr;clear h1 h2 hr;have c0:wr.cell? ⟨w.heap.size,0,none⟩=some (.func (.func F) #[] lb):=(HR.out.box (Blk.new w _ _) (by omega)).cell 0;by_cases hlt:i<j
  ·have dl:decide ((i:Int)<(j:Int))=true:=by simp;omega
   obtain⟨h,hh⟩:∃h,h=(i+j)/2:=⟨_,rfl⟩;have hhi:((i:Int)+(j:Int))/2=(h:Int):=by omega
   have hih:i≤h:=by omega
   have hhj:h<j:=by omega
   clear hh;obtain⟨x,hx⟩:∃x,l[h]? =some x:=⟨_,AE (by rw[HN.out];omega)⟩;obtain⟨y,hy⟩:∃y,l[m]? =some y:=⟨_,AE (by rw[HN.out];omega)⟩;have HL:=AA (HLe.out wr l m h y x (HRow.out.trans HR.out.off) HP.out hy hx);have HX:=AA hx;have HYy:=AA hy;clear hx hy;cases hlv:lt y x with
   |false=>
    rw[hlv]at HL;go_wp2_with fail
    refine HL.out.mono ?_;rintro e w2 ⟨rfl,hb2⟩;go_wp2;go_roundw
    case rel=>exact⟨h+1,j,by go_num,rfl,⟨by omega,by omega,hjb,.inr ⟨x,y,HX.out,HYy.out,hlv⟩,H2.out⟩,HR.out.below hb2⟩
    case measure=>simp[intOf];omega
   |true=>
    rw[hlv]at HL;go_wp2_with fail
    refine HL.out.mono ?_;rintro e w2 ⟨rfl,hb2⟩;go_wp2;go_roundw
    case rel=>exact⟨i,h,rfl,rfl,⟨hi1,by omega,by omega,H1.out,.inr ⟨x,y,HX.out,HYy.out,hlv⟩⟩,HR.out.below hb2⟩
    case measure=>simp[intOf];omega
  ·have dl:decide ((i:Int)<(j:Int))=false:=by simp;omega
   obtain rfl:j=i:=by omega
   go_wp2
   go_loopw [15] (fun kv wr=>∃d:Nat,kv= .int .i64 ((a+d:Nat):Int)∧j-a≤d∧d≤m-a∧Row c t (w.alloc (.cells #[.func (.func F) #[] lb,.func (.func f) #[] sb] 190)) g (Dy l a m b d) wr) (fun kv _=>(intOf kv).toNat)
   case atStart=>
    refine⟨m-a,?_,by omega,AB _,by rw[Jy (by omega) (by omega) (by rw[HN.out];exact hb)];exact HR.out⟩;rw[show a+(m-a)=m from by omega]
   case round=>
    clear c0;obtain⟨d,rfl,hd,hdm,hr⟩:=hrel;clear HR;have HR:=AA hr;clear hr;obtain⟨k,hk⟩:∃k,k=a+d:=⟨_,rfl⟩;have HK:=AA hk;have hak:a≤k:=by omega
    have hkm:k≤m:=by omega
    rw[←hk];by_cases hlt2:j-a<d
    ·have dk:decide ((j:Int)<(k:Int))=true:=by simp;omega
     have hkj:j<k:=by omega
     have c1:wr.cell? ⟨w.heap.size,1,none⟩=some (.func (.func f) #[] sb):=(HR.out.box (Blk.new w _ _) (by omega)).cell 1;have hlen:(Dy l a m b d).length=n:=by
      have:=HN.out;unfold Dy;simp only[AI,AZ,List.length_drop];rw[CX l (by omega),CX l (by omega)];omega
     obtain⟨W',hrun,hrow'⟩:=HSw.out wr _ k (k-1) (HRow.out.trans HR.out.off) hlen (by omega) (by omega) (by omega);rw[show((k-1:Nat):Int)=(k:Int)-1 from by omega]at hrun;have hs:CO (Dy l a m b d) k (k-1)=Dy l a m b (d-1):=by
      have h:=MZ (l:=l) (a:=a) (m:=m) (d:=d-1) (by have:=HM.out;rw[HN.out];omega) (by omega);rw[show d-1+1=d from by omega,show a+(d-1)+1=k from by omega,show a+(d-1)=k-1 from by omega,←HM.out]at h;exact h
     rw[hs]at hrow';have HR':=AA (HR.out.trans hrow');clear hs hrow' hlen hk;go_wp2;go_roundw
     case rel=>exact⟨d-1,by have:=HK.out;go_num,by omega,by omega,HR'.out⟩
     case measure=>simp[intOf];omega
    ·have dk:decide ((j:Int)<(k:Int))=false:=by simp;omega
     have hkj:k≤j:=by omega
     have hd2:d=j-a:=by omega
     have HD:=AA hd2;clear hd2 hk;go_wp2;go_end0;have hM:=HM.out;subst hM;obtain⟨q1,q2⟩:=Ma HO.out (l:=l) (a:=a) (m:=m) (i:=j) (by rw[HN.out];exact hb) HX0.out hi1 hjb H1.out H2.out;rw[←HD.out]at q1 q2;exact⟨rfl,_,HR.out.off,q1,q2⟩
end
end
end Go.Proofs.YtadllffeoibelaaGreat
