/-
  What these parts of the proof come to, functions walked and plain laws: St1, St2, Pd1. No condition.
-/
import Derived.Test.YtadllffeoibelaaGreatS7
import Derived.Lib.Hide
import Derived.Deep.DeepCutAuto
namespace Go.Proofs.YtadllffeoibelaaGreat
set_option maxRecDepth 100000
set_option maxHeartbeats 32000000
set_option linter.all false
section
open Go.RowKit
theorem PD{α:Type}{P X M Y S:List α}{k i:Nat}(hX:X.length=k)(hY:Y.length=k)(hi:i<k):CO (P++(Y.take i++(X.drop i++(M++(X.take i++(Y.drop i++S)))))) (P.length+i) (P.length+k+M.length+i)=P++(Y.take (i+1)++(X.drop (i+1)++(M++(X.take (i+1)++(Y.drop (i+1)++S))))):=by
 have hx:i<X.length:=by omega
 have hy:i<Y.length:=by omega
 rw[List.drop_eq_getElem_cons hx,List.drop_eq_getElem_cons hy,List.take_succ_eq_append_getElem hx,List.take_succ_eq_append_getElem hy];have h:=Fj (P++Y.take i) (X.drop (i+1)++(M++X.take i)) (Y.drop (i+1)++S) X[i] Y[i];have e1:(P++Y.take i).length=P.length+i:=by rw[AI,AZ];omega
 have e2:(P++Y.take i).length+1+(X.drop (i+1)++(M++X.take i)).length=P.length+k+M.length+i:=by
  rw[e1];simp only[AI,List.length_drop,AZ];omega
 rw[e2,e1]at h;simp only[List.append_assoc,List.cons_append,List.nil_append]at h ⊢;exact h
section
variable {α:Type}{c:α→List Value}{t:TypeId}{w0:World}{g n f:Nat}{sb:Array Value}
theorem EN(lf:Value)(hsw:EM c t w0 g n f sb)(a b k:Nat)(P X M Y S:List α)(w:World)(hrow:Row c t w0 g (P++(X++(M++(Y++S)))) w)(hn:(P++(X++(M++(Y++S)))).length=n)(hsmall:n≤1000000)(ha:P.length=a)(hX:X.length=k)(hY:Y.length=k)(hb:a+k+M.length=b):Calls Tryz.prog 272 #[.agg #[lf,.func (.func f) #[] sb],.int .i64 (a:Int),.int .i64 (b:Int),.int .i64 (k:Int)] w fun e w'=>e= .returned (.tuple #[])∧Row c t w g (P++(Y++(M++(X++S)))) w':=by
 have hbig:b+k≤n:=by
  simp only[AI]at hn;omega
 have hab:a+k≤b:=by omega
 have HSw:=AA hsw;clear hsw;have HRow:=AA hrow;clear hrow;have HN:=AA hn;clear hn;have HX:=AA hX;clear hX;have HY:=AA hY;clear hY;have HA:=AA ha;clear ha;have HB:=AA hb;clear hb;have hgw:g<w.heap.size:=HRow.out.blk.lt;go_enter Tryz.func272,Tryz.ntmps272;go_wp2
 go_loopw [8] (fun iv wr=>∃i:Nat,iv= .int .i64 (i:Int)∧i≤k∧Row c t (w.alloc (.cells #[lf,.func (.func f) #[] sb] 190)) g (P++(Y.take i++(X.drop i++(M++(X.take i++(Y.drop i++S)))))) wr) (fun iv _=>k-(intOf iv).toNat)
 case atStart=>
  refine⟨0,rfl,Nat.zero_le _,?_⟩;have:=Row.self (HRow.out.blk.alloc (.cells #[lf,.func (.func f) #[] sb] 190));simpa using this
 case round=>
  obtain⟨i,rfl,hik,hr⟩:=hrel;have HR:=AA hr;clear hr;by_cases hi:i<k
  ·have c1:wr.cell? ⟨w.heap.size,1,none⟩=some (.func (.func f) #[] sb):=(HR.out.box (Blk.new w _ _) (by omega)).cell 1;have hlen:(P++(Y.take i++(X.drop i++(M++(X.take i++(Y.drop i++S)))))).length=n:=by
    rw[←HN.out];have h1:=HX.out;have h2:=HY.out;simp only[AI,AZ,List.length_drop];omega
   obtain⟨W',hrun,hrow'⟩:=HSw.out wr _ (a+i) (b+i) (HRow.out.trans (HR.out.off)) hlen (by omega) (by omega) (by omega);rw[show((a+i:Nat):Int)=(a:Int)+(i:Int)from by omega,show((b+i:Nat):Int)=(b:Int)+(i:Int)from by omega]at hrun;have hs:=PD (P:=P) (X:=X) (M:=M) (Y:=Y) (S:=S) HX.out HY.out hi;rw[HA.out,HB.out]at hs;rw[hs]at hrow';have HRow':=AA (HR.out.trans hrow');clear hs hrow' hlen;go_wp2;go_roundw
   case rel=>exact⟨i+1,by go_num,by omega,HRow'.out⟩
   case measure=>simp[intOf];omega
  ·obtain rfl:k=i:=by omega
   go_wp2;go_end0;refine⟨rfl,?_⟩;have h:=HR.out.off;rw[AT (Nat.le_of_eq HY.out),List.drop_eq_nil_of_le (Nat.le_of_eq HX.out),AT (Nat.le_of_eq HX.out),List.drop_eq_nil_of_le (Nat.le_of_eq HY.out)]at h;simpa using h
theorem NH(lf:Value)(hsw:EM c t w0 g n f sb)(a m b:Nat)(P X Y S:List α)(w:World)(hrow:Row c t w0 g (P++(X++(Y++S))) w)(hn:(P++(X++(Y++S))).length=n)(hsmall:n≤1000000)(ha:P.length=a)(hm:a+X.length=m)(hb:m+Y.length=b)(hX:0<X.length)(hY:0<Y.length):Calls Tryz.prog 236 #[.agg #[lf,.func (.func f) #[] sb],.int .i64 (a:Int),.int .i64 (m:Int),.int .i64 (b:Int)] w fun e w'=>e= .returned (.tuple #[])∧Row c t w g (P++(Y++(X++S))) w':=by
 have hbig:b≤n:=by
  simp only[AI]at hn;omega
 have ham:a≤m:=by omega
 have hmb:m≤b:=by omega
 obtain⟨T,hT⟩:∃T,T=P++(Y++(X++S)):=⟨_,rfl⟩;obtain⟨l,hl⟩:∃l,l=P++(X++(Y++S)):=⟨_,rfl⟩;have hs0:∃U X' Y' V:List α,((m:Int)-(a:Int))=(X'.length:Int)∧((b:Int)-(m:Int))=(Y'.length:Int)∧0<X'.length∧0<Y'.length∧U.length+X'.length=m∧(U++(X'++(Y'++V))).length=n∧l=U++(X'++(Y'++V))∧U++(Y'++(X'++V))=T:=
  ⟨P,X,Y,S,by omega,by omega,hX,hY,by omega,hn,hl,hT.symm⟩
 rw[←hl]at hrow hn;rw[←hT];have HSw:=AA hsw;have HRow:=AA hrow;have HS0:=AA hs0;clear hsw hrow hs0 hn hl hT hX hY ha hm hb;have hgw:g<w.heap.size:=HRow.out.blk.lt;go_enter Tryz.func236,Tryz.ntmps236;go_wp2
 go_loopw [8,9] (fun iv jv wr=>∃(i j:Nat) (U X' Y' V:List α),iv= .int .i64 (i:Int)∧jv= .int .i64 (j:Int)∧X'.length=i∧Y'.length=j∧0<i∧0<j∧U.length+i=m∧(U++(X'++(Y'++V))).length=n∧Row c t (w.alloc (.cells #[lf,.func (.func f) #[] sb] 190)) g (U++(X'++(Y'++V))) wr∧U++(Y'++(X'++V))=T) (fun iv jv _=>(intOf iv).toNat+(intOf jv).toNat)
 case atStart=>
  obtain⟨U,X',Y',V,h1,h2,h3,h4,h5,h6,h7,h8⟩:=HS0.out;refine⟨X'.length,Y'.length,U,X',Y',V,by rw[h1],by rw[h2],rfl,rfl,h3,h4,h5,h6,?_,h8⟩;rw[←h7];exact Row.self (HRow.out.blk.alloc (.cells #[lf,.func (.func f) #[] sb] 190))
 case round=>
  obtain⟨i,j,U,X',Y',V,rfl,rfl,hX,hY,hi,hj,hU,hn,hr,hT⟩:=hrel;have hjb:m+j≤n:=by
   simp only[AI]at hn;omega
  have HB:Hid (Blk wr w.heap.size 190 #[lf,.func (.func f) #[] sb]):=hr.box (Blk.new w _ _) (by omega);have HR:=AA hr;have HT:=AA hT;have HXl:=AA hX;have HYl:=AA hY;have HN:=AA hn;have HU:=AA hU;have hiU:i≤m:=by omega
  clear hr hT hX hY hn hU;have c0:wr.cell? ⟨w.heap.size,0,none⟩=some lf:=HB.out.cell 0;have c1:wr.cell? ⟨w.heap.size,1,none⟩=some (.func (.func f) #[] sb):=HB.out.cell 1;have k1:(m:Int)-(i:Int)=((m-i:Nat):Int):=by omega
  rcases Nat.lt_trichotomy i j with hij|hij|hij
  ·have d1:decide ((i:Int)=(j:Int))=false:=by simp;omega
   have hsp:=Aj (j-i) Y';have hc:=EN lf HSw.out (m-i) (m+j-i) i U X' (Y'.take (j-i)) (Y'.drop (j-i)) V wr
    (by rw[←List.append_assoc (Y'.take (j-i)),hsp];exact HRow.out.trans HR.out.off) (by rw[←List.append_assoc (Y'.take (j-i)),hsp];exact HN.out) hsmall
    (by have:=HU.out;omega) HXl.out (by rw[List.length_drop,HYl.out];omega) (by rw[AZ,HYl.out];omega)
   rw[show((m+j-i:Nat):Int)=(m:Int)+(j:Int)-(i:Int)from by omega,show((m-i:Nat):Int)=(m:Int)-(i:Int)from by omega]at hc;have HC:=AA hc;clear hc hsp k1;go_wp2_with (go_at_call 272;refine HC.out.mono ?_;rintro en w2 ⟨rfl,hr2⟩)
   go_roundw
   case rel=>
    refine⟨i,j-i,U,Y'.drop (j-i),Y'.take (j-i),X'++V,rfl,by go_num,by rw[List.length_drop,HYl.out];omega,by rw[AZ,HYl.out];omega,hi,by omega,HU.out,?_,?_,?_⟩
    ·have h:=HN.out;have h2:=HYl.out;simp only[AI,List.length_drop,AZ]at h ⊢;omega
    ·exact HR.out.trans hr2
    ·rw[←HT.out]
     conv=>rhs;rw[←Aj (j-i) Y']
     simp only[List.append_assoc]
   case measure=>simp[intOf];omega
  ·subst hij;have hc:=EN lf HSw.out (m-i) m i U X' [] Y' V wr (by rw[List.nil_append];exact HRow.out.trans HR.out.off) (by rw[List.nil_append];exact HN.out) hsmall
    (by have:=HU.out;omega) HXl.out HYl.out (by rw[List.length_nil];omega)
   rw[show((m-i:Nat):Int)=(m:Int)-(i:Int)from by omega]at hc;have HC:=AA hc;clear hc k1;go_wp2_with (go_at_call 272;refine HC.out.mono ?_;rintro en w2 ⟨rfl,hr2⟩)
   go_end0;refine⟨rfl,?_⟩;have h:=(HR.out.trans hr2).off;rw[List.nil_append,HT.out]at h;exact h
  ·have d1:decide ((i:Int)=(j:Int))=false:=by simp;omega
   have hsp:=Aj j X';have hc:=EN lf HSw.out (m-i) m j U (X'.take j) (X'.drop j) Y' V wr
    (by rw[←List.append_assoc (X'.take j),hsp];exact HRow.out.trans HR.out.off) (by rw[←List.append_assoc (X'.take j),hsp];exact HN.out) hsmall
    (by have:=HU.out;omega) (by rw[AZ,HXl.out];omega) HYl.out (by rw[List.length_drop,HXl.out];omega)
   rw[show((m-i:Nat):Int)=(m:Int)-(i:Int)from by omega]at hc;have HC:=AA hc;clear hc hsp k1;go_wp2_with (go_at_call 272;refine HC.out.mono ?_;rintro en w2 ⟨rfl,hr2⟩)
   go_roundw
   case rel=>
    refine⟨i-j,j,U++Y',X'.drop j,X'.take j,V,by go_num,rfl,by rw[List.length_drop,HXl.out],by rw[AZ,HXl.out];omega,by omega,hj,?_,?_,?_,?_⟩
    ·have h:=HU.out;have h2:=HYl.out;rw[AI];omega
    ·have h:=HN.out;have h2:=HXl.out;simp only[AI,List.length_drop,AZ]at h ⊢;omega
    ·rw[List.append_assoc];exact HR.out.trans hr2
    ·rw[←HT.out]
     conv=>rhs;rw[←Aj j X']
     simp only[List.append_assoc]
   case measure=>simp[intOf];omega
end
section
variable {α:Type}{c:α→List Value}{t:TypeId}{w0:World}{g n f F:Nat}{sb lb:Array Value}{lt:α→α→Bool}{l0:List α}
def Da(c:α→List Value)(t:TypeId)(g:Nat)(lt:α→α→Bool)(l:List α)(a b:Nat)(w:World)(e:Ending)(w':World):Prop:=
 e= .returned (.tuple #[])∧∃l',Row c t w g l' w'∧CB l l' a b∧Asc lt (seg l' a b)
def C0(lt:α→α→Bool)(l':List α)(a i j:Nat)(lj:List α):Prop:=
 ∃(Q L1 L2 R:List α) (x:α),Q.length=a∧a+L1.length=j∧j+L2.length=i∧l'=Q++((L1++L2)++x::R)∧lj=Q++((L1++x::L2)++R)∧Asc lt (L1++L2)∧∀z∈L2,lt x z=true
theorem C0.start{l':List α}{a i:Nat}(hai:a≤i)(hi:i<l'.length)(hs:Asc lt (seg l' a i)):C0 lt l' a i i l':=by
 obtain⟨e,h1,h2⟩:=Fk l' hai (Nat.le_of_lt hi);refine⟨l'.take a,seg l' a i,[],l'.drop (i+1),l'[i],h1,by omega,by simp,?_,?_,by simpa using hs,fun z hz=>by cases hz⟩
 ·rw[List.append_nil,←List.drop_eq_getElem_cons hi];exact e
 ·rw[List.append_assoc,List.cons_append,List.nil_append,←List.drop_eq_getElem_cons hi];exact e
theorem C0.len{l' lj:List α}{a i j:Nat}(h:C0 lt l' a i j lj):lj.length=l'.length∧a≤j∧j≤i∧i<l'.length:=by
 obtain⟨Q,L1,L2,R,x,h1,h2,h3,h4,h5,_,_⟩:=h;rw[h4,h5];simp only[AI,Af];omega
theorem C0.perm{l' lj:List α}{a i j:Nat}(h:C0 lt l' a i j lj):CB l' lj a (i+1):=by
 obtain⟨Q,L1,L2,R,x,h1,h2,h3,h4,h5,_,_⟩:=h;rw[h4,h5];have hp:(L1++x::L2).Perm ((L1++L2)++[x]):=(List.perm_middle).trans (List.perm_append_singleton x (L1++L2)).symm;have e:Q++((L1++L2)++x::R)=Q++(((L1++L2)++[x])++R):=by simp
 rw[e];exact IW h1 (by simp only[AI,Af,List.length_nil];omega) hp
theorem C0.two{l' lj:List α}{a i j:Nat}(h:C0 lt l' a i j lj)(hj:a<j):∃x y,lj[j]? =some x∧lj[j-1]? =some y∧(lt x y=true→C0 lt l' a i (j-1) (CO lj j (j-1))):=by
 obtain⟨Q,L1,L2,R,x,h1,h2,h3,h4,h5,h6,h7⟩:=h;obtain⟨L,y,hL⟩:∃L y,L1=L++[y]:=by
  rcases List.eq_nil_or_concat L1 with e|⟨L,y,e⟩
  ·rw[e]at h2;simp at h2;omega
  ·exact⟨L,y,by simpa using e⟩
 subst hL;rw[AI,List.length_singleton]at h2;have e:lj=(Q++L)++y::x::(L2++R):=by rw[h5];simp
 have el:(Q++L).length=j-1:=by rw[AI];omega
 refine⟨x,y,?_,?_,fun hxy=>⟨Q,L,y::L2,R,x,h1,by omega,by rw[Af];omega,by rw[h4];simp,?_,by simpa using h6,?_⟩⟩
 ·rw[e,List.getElem?_append_right (by omega),el,show j-(j-1)=1 from by omega];rfl
 ·rw[e,List.getElem?_append_right (by omega),el,Nat.sub_self];rfl
 ·have hs:=Ja (Q++L) (L2++R) y x;rw[el,show j-1+1=j from by omega,←e]at hs;rw[hs];simp
 ·intro z hz;rcases List.mem_cons.1 hz with rfl|hz
  ·exact hxy
  ·exact h7 z hz
theorem C0.done(ho:Ord lt){l' lj:List α}{a i j:Nat}(h:C0 lt l' a i j lj)(hs:j=a∨∃x y,lj[j]? =some x∧lj[j-1]? =some y∧lt x y=false):Asc lt (seg lj a (i+1)):=by
 obtain⟨Q,L1,L2,R,x,h1,h2,h3,h4,h5,h6,h7⟩:=h;rw[h5,Gk h1 (by simp only[AI,Af];omega)];refine GD h6 ?_ (fun z hz=>ho.asymm _ _ (h7 z hz));rcases hs with hj|⟨x',y,hx,hy,hxy⟩
 ·have:L1=[]:=AV (by omega);subst this;intro z hz;cases hz
 ·rcases List.eq_nil_or_concat L1 with e|⟨L,u,e⟩
  ·rw[e];intro z hz;cases hz
  ·have e':L1=L++[u]:=by simpa using e
   subst e';rw[AI,List.length_singleton]at h2;have el:(Q++L).length=j-1:=by rw[AI];omega
   have ej:lj=(Q++L)++u::x::(L2++R):=by rw[h5];simp
   rw[ej,List.getElem?_append_right (by omega),el,show j-(j-1)=1 from by omega]at hx;rw[ej,List.getElem?_append_right (by omega),el,Nat.sub_self]at hy;cases hx;cases hy
   exact Asc.last_le ho (Cz.1 h6).1 hxy
theorem Jl(eg:∀args w,(callFunc F args).run Tryz.prog w= .ok (.enter F args) w)(ho:Ord lt)(hle:D2 c t w0 g l0 lt F lb)(hsw:EM c t w0 g n f sb)(a b:Nat)(l:List α)(w:World)(hrow:Row c t w0 g l w)(hp:l.Perm l0)(hn:l.length=n)(hsmall:n≤1000000)(hab:a≤b)(hb:b≤n):Calls Tryz.prog 179 #[.agg #[.func (.func F) #[] lb,.func (.func f) #[] sb],.int .i64 (a:Int),.int .i64 (b:Int)] w (Da c t g lt l a b w):=by
 have HO:=AA ho;clear ho;have HLe:=AA hle;clear hle;have HSw:=AA hsw;clear hsw;have HRow:=AA hrow;clear hrow;have HP:=AA hp;clear hp;have HN:=AA hn;clear hn;have hgw:g<w.heap.size:=HRow.out.blk.lt;go_enter Tryz.func179,Tryz.ntmps179;go_wp2
 go_loopw [6] (fun iv wr=>∃(i:Nat) (l':List α),iv= .int .i64 (i:Int)∧a<i∧(i≤b∨b=a)∧Row c t (w.alloc (.cells #[.func (.func F) #[] lb,.func (.func f) #[] sb] 190)) g l' wr∧CB l l' a b∧Asc lt (seg l' a i)) (fun iv _=>b+1-(intOf iv).toNat)
 case atStart=>
  refine⟨a+1,l,by go_num,by omega,by omega,Row.self (HRow.out.blk.alloc _),CB.refl _ _ _,?_⟩;rcases hs:seg l a (a+1)with _|⟨x,_|⟨y,r⟩⟩
  ·exact Asc.nil
  ·exact Asc.one _
  ·have:=congrArg List.length hs;unfold seg at this;rw[List.length_drop,AZ]at this;simp at this;omega
 case round=>
  obtain⟨i,l',rfl,hai,hib,hr,hk,hs⟩:=hrel;have HR:=AA hr;have HK:=AA hk;have HS:=AA hs;clear hr hk hs;by_cases hi:i<b
  ·have di:decide ((i:Int)<(b:Int))=true:=by simp;omega
   have HL':Hid (l'.length=n):=HK.out.len.trans HN.out;go_wp2
   go_loopw [7] (fun jv wr=>∃(j:Nat) (lj:List α),jv= .int .i64 (j:Int)∧a≤j∧j≤i∧Row c t (w.alloc (.cells #[.func (.func F) #[] lb,.func (.func f) #[] sb] 190)) g lj wr∧C0 lt l' a i j lj) (fun jv _=>(intOf jv).toNat)
   case atStart=>exact⟨i,l',rfl,by omega,by omega,HR.out,C0.start (by omega) (by rw[HL'.out];omega) HS.out⟩
   case round=>
    obtain⟨j,lj,rfl,haj,hji,hr,hins⟩:=hrel;have hlj:lj.length=n:=hins.len.1.trans HL'.out;have HLj:=AA hlj;have HI:=AA hins;have HRj:=AA hr;have c0:wr.cell? ⟨w.heap.size,0,none⟩=some (.func (.func F) #[] lb):=(HRj.out.box (Blk.new w _ _) (by omega)).cell 0;clear hr hins hlj;have HPj:Hid (lj.Perm l0):=(HI.out.perm.perm.trans HK.out.perm).trans HP.out;have HKj:Hid (CB l lj a b):=HK.out.trans (HI.out.perm.wider (AB _) (by omega));by_cases hja:a<j
    ·have dj:decide ((a:Int)<(j:Int))=true:=by simp;omega
     obtain⟨x,y,hx,hy,hstep⟩:=HI.out.two hja;have hl:=fun W (hW:Row c t (w.alloc (.cells #[.func (.func F) #[] lb,.func (.func f) #[] sb] 190)) g lj W)=>HLe.out W lj j (j-1) x y (HRow.out.trans hW.off) HPj.out hx hy
     rw[show(((j-1:Nat):Int))=(j:Int)-1 from by omega]at hl;have HL:=AA hl;have HSt:=AA hstep;have HX:=AA hx;have HY:=AA hy;clear hl hstep hx hy;cases hlv:lt x y with
     |true=>
      rw[hlv]at HL;go_wp2_with fail
      refine(HL.out _ HRj.out).mono ?_;rintro e w2 ⟨rfl,hb2⟩;have HR2:=AA (HRj.out.below hb2);have c1:w2.cell? ⟨w.heap.size,1,none⟩=some (.func (.func f) #[] sb):=(HR2.out.box (Blk.new w _ _) (by omega)).cell 1;obtain⟨W3,hrun,hrow3⟩:=HSw.out w2 lj j (j-1) (HRow.out.trans HR2.out.off) HLj.out (by omega) (by omega) (by omega);rw[show(((j-1:Nat):Int))=(j:Int)-1 from by omega]at hrun;have HR3:=AA (HR2.out.trans hrow3);clear hrow3 hb2;go_wp2;go_roundw
      case rel=>exact⟨j-1,CO lj j (j-1),by go_num,by omega,by omega,HR3.out,HSt.out hlv⟩
      case measure=>simp[intOf];omega
     |false=>
      rw[hlv]at HL;go_wp2_with fail
      refine(HL.out _ HRj.out).mono ?_;rintro e w2 ⟨rfl,hb2⟩;have HR2:=AA (HRj.out.below hb2);clear hb2;go_wp2;go_roundw
      case rel=>exact⟨i+1,lj,by go_num,by omega,by omega,HR2.out,HKj.out,HI.out.done HO.out (.inr ⟨x,y,HX.out,HY.out,hlv⟩)⟩
      case measure=>simp[intOf];omega
    ·have dj:decide ((a:Int)<(j:Int))=false:=by simp;omega
     go_wp2;go_roundw
     case rel=>exact⟨i+1,lj,by go_num,by omega,by omega,HRj.out,HKj.out,HI.out.done HO.out (.inl (by omega))⟩
     case measure=>simp[intOf];omega
  ·have di:decide ((i:Int)<(b:Int))=false:=by simp;omega
   go_wp2;go_end0;refine⟨rfl,l',HR.out.off,HK.out,?_⟩;rcases Nat.lt_or_ge b i with h|h
   ·rw[Bu l' (.inr (by omega))];exact Asc.nil
   ·have e:b=i:=by omega
    rw[e];exact HS.out
end
structure Be (α:Type) where
 enc:α→List Value
 tail:List Value
section
variable {α:Type}{c:Be α}{t:TypeId}{w0:World}{g n f F:Nat}{sb lb:Array Value}{lt:α→α→Bool}{l0:List α}
structure Bx (c:Be α)(t:TypeId)(w0:World)(g:Nat)(l:List α)(w:World):Prop where
 blk:Blk w g t (l.flatMap c.enc++c.tail).toArray
 kept:w0.grownBy w (some g)
theorem Bx.self{l:List α}{w:World}(h:Blk w g t (l.flatMap c.enc++c.tail).toArray):Bx c t w g l w:=⟨h,Ai w g⟩
theorem Bx.trans{l l':List α}{w w':World}(h:Bx c t w0 g l w)(h':Bx c t w g l' w'):Bx c t w0 g l' w':=⟨h'.blk,h.kept.trans h'.kept⟩
theorem Bx.alloc{l:List α}{w:World}(h:Bx c t w0 g l w)(o:Obj):Bx c t w0 g l (w.alloc o):=⟨h.blk.alloc o,Bl h.kept o⟩
theorem Bx.below{l:List α}{w w':World}(h:Bx c t w0 g l w)(hb:Below w.heap.size w w'):Bx c t w0 g l w':=
 ⟨h.blk.below hb h.blk.lt,h.kept.trans ⟨hb.os,hb.tape,hb.output,hb.size,fun i hi _=>hb.block i hi⟩⟩
theorem Bx.off{l:List α}{w w':World}{o:Obj}(h:Bx c t (w.alloc o) g l w'):Bx c t w g l w':=⟨h.blk,(EE w o (some g)).trans h.kept⟩
theorem Bx.box{l:List α}{w:World}{k:Nat}{tb:TypeId}{cs:Array Value}(h:Bx c t w0 g l w)(hB:Blk w0 k tb cs)(hk:k≠g):Blk w k tb cs:=hB.kept h.kept (by simpa using hk)
def Fr(c:Be α)(t:TypeId)(w0:World)(g:Nat)(l0:List α)(lt:α→α→Bool)(f:Nat)(lb:Array Value):Prop:=
 ∀(W:World) (l:List α) (i j:Nat) (x y:α),Bx c t w0 g l W→l.Perm l0→l[i]? =some x→l[j]? =some y→
  Calls Tryz.prog f (#[.int .i64 (i:Int),.int .i64 (j:Int)]++lb) W fun e w'=>e= .returned (.bool (lt x y))∧Below W.heap.size W w'
def OF(c:Be α)(t:TypeId)(w0:World)(g n:Nat)(f:Nat)(sb:Array Value):Prop:=
 ∀(W:World) (l:List α) (i j:Nat),Bx c t w0 g l W→l.length=n→i<n→j<n→2≤n→
  ∃W',(callFunc f (#[.int .i64 (i:Int),.int .i64 (j:Int)]++sb)).run Tryz.prog W= .ok (.value (.tuple #[])) W'∧∃l',l'.Perm l∧Bx c t W g l' W'
structure Srt (c:Be α)(t:TypeId)(w0:World)(g n f F:Nat)(sb lb:Array Value)(lt:α→α→Bool)(l0:List α):Prop where
 eg:∀args w,(callFunc F args).run Tryz.prog w= .ok (.enter F args) w
 le:Fr c t w0 g l0 lt F lb
 sw:OF c t w0 g n f sb
 len:l0.length=n
 small:n≤1000000
def BC(c:Be α)(t:TypeId)(g:Nat)(l0:List α)(B V:World):Prop:=∃l',Bx c t B g l' V∧l'.Perm l0
theorem BC.trans{A B V:World}(h:BC c t g l0 A B)(h':BC c t g l0 B V):BC c t g l0 A V:=by
 obtain⟨l,h1,_⟩:=h;obtain⟨l',h2,h3⟩:=h';exact⟨l',h1.trans h2,h3⟩
theorem BC.self{A B:World}(h:BC c t g l0 A B):BC c t g l0 B B:=by
 obtain⟨l,h1,h2⟩:=h;exact⟨l,Bx.self h1.blk,h2⟩
theorem BC.glt{A B:World}(h:BC c t g l0 A B):g<B.heap.size:=by
 obtain⟨l,h1,_⟩:=h;exact h1.blk.lt
theorem BC.alloc{A B:World}(h:BC c t g l0 A B)(o:Obj):BC c t g l0 A (B.alloc o):=by
 obtain⟨l,h1,h2⟩:=h;exact⟨l,h1.alloc o,h2⟩
theorem BC.off{A V:World}{o:Obj}(h:BC c t g l0 (A.alloc o) V):BC c t g l0 A V:=by
 obtain⟨l,h1,h2⟩:=h;exact⟨l,h1.off,h2⟩
theorem BC.below{A V W:World}(h:BC c t g l0 A V)(hb:Below V.heap.size V W):BC c t g l0 A W:=by
 obtain⟨l,h1,h2⟩:=h;exact⟨l,h1.below hb,h2⟩
theorem BC.box{A V:World}(h:BC c t g l0 A V){k:Nat}{tb:TypeId}{cs:Array Value}(hB:Blk A k tb cs)(hk:k≠g):Blk V k tb cs:=by
 obtain⟨l,h1,_⟩:=h;exact h1.box hB hk
theorem BC.size{A V:World}(h:BC c t g l0 A V):A.heap.size≤V.heap.size:=by
 obtain⟨l,h1,_⟩:=h;exact h1.kept.size
theorem Srt.less{B V:World}(H:Srt c t w0 g n f F sb lb lt l0)(hB:BC c t g l0 w0 B)(hV:BC c t g l0 B V)(i j:Nat)(hi:i<n)(hj:j<n):Calls Tryz.prog F (#[.int .i64 (i:Int),.int .i64 (j:Int)]++lb) V fun e w'=>∃k,e= .returned (.bool k)∧BC c t g l0 B w':=by
 obtain⟨l,h1,h2⟩:=hV;obtain⟨m,h3,_⟩:=hB;have hl:l.length=n:=h2.length_eq.trans H.len;obtain⟨x,hx⟩:∃x,l[i]? =some x:=⟨_,AE (by omega)⟩;obtain⟨y,hy⟩:∃y,l[j]? =some y:=⟨_,AE (by omega)⟩;refine(H.le V l i j x y (h3.trans h1) h2 hx hy).mono ?_;rintro e w' ⟨rfl,hb⟩;exact⟨_,rfl,l,h1.below hb,h2⟩
theorem Srt.swap{B V:World}(H:Srt c t w0 g n f F sb lb lt l0)(hB:BC c t g l0 w0 B)(hV:BC c t g l0 B V)(i j:Nat)(hi:i<n)(hj:j<n)(hn2:2≤n):∃W',(callFunc f (#[.int .i64 (i:Int),.int .i64 (j:Int)]++sb)).run Tryz.prog V= .ok (.value (.tuple #[])) W'∧BC c t g l0 B W':=by
 obtain⟨l,h1,h2⟩:=hV;obtain⟨m,h3,_⟩:=hB;obtain⟨W',hr,l',hp,hw⟩:=H.sw V l i j (h3.trans h1) (h2.length_eq.trans H.len) hi hj hn2;exact⟨W',hr,l',h1.trans hw,hp.trans h2⟩
theorem Gm(H:Srt c t w0 g n f F sb lb lt l0)(lo hi first:Nat)(w:World)(hw:BC c t g l0 w0 w)(hh:first+hi≤n)(hlo:lo≤n):Calls Tryz.prog 267 #[.agg #[.func (.func F) #[] lb,.func (.func f) #[] sb],.int .i64 (lo:Int),.int .i64 (hi:Int),.int .i64 (first:Int)] w fun e w'=>e= .returned (.tuple #[])∧BC c t g l0 w w':=by
 have HH:=AA H;have hgw:g<w.heap.size:=hw.glt;obtain⟨B,hB⟩:∃B,B=w.alloc (.cells #[.func (.func F) #[] lb,.func (.func f) #[] sb] 190):=⟨_,rfl⟩;have h0B:BC c t g l0 w0 B:=by rw[hB];exact hw.alloc _
 have hBB:BC c t g l0 B B:=h0B.self;have hBx:Blk B w.heap.size 190 #[.func (.func F) #[] lb,.func (.func f) #[] sb]:=by rw[hB];exact Blk.new _ _ _
 have HOff:Hid (∀V,BC c t g l0 B V→BC c t g l0 w V):=fun V h=>by rw[hB]at h;exact h.off
 have HB0:=AA h0B;have HC:Hid (∀V,BC c t g l0 B V→V.cell? ⟨w.heap.size,0,none⟩=some (.func (.func F) #[] lb)∧V.cell? ⟨w.heap.size,1,none⟩=some (.func (.func f) #[] sb)):=fun V h=>⟨(h.box hBx (by omega)).cell 0,(h.box hBx (by omega)).cell 1⟩
 have eg:=H.eg;have hn6:=H.small;have HW:=AA hB;have HBB:=AA hBB;clear hw hB h0B hBB hBx H;go_enter Tryz.func267,Tryz.ntmps267;go_upto_region 1 with fail
 simp only[←HW.out];go_upto_region 2 with fail
 go_loopw [8] (fun rv wr=>∃r:Nat,rv= .int .i64 (r:Int)∧r≤n∧Hid (BC c t g l0 B wr)) (fun rv _=>n-(intOf rv).toNat)
 case atStart=>exact⟨lo,rfl,hlo,HBB⟩
 case round=>
  obtain⟨r,rfl,hr,HP⟩:=hrel;obtain⟨c0,c1⟩:=HC.out _ HP.out;by_cases h1:2*r+1<hi
  ·have d1:decide ((hi:Int)≤2*(r:Int)+1)=false:=by simp;omega
   by_cases h2:2*r+1+1<hi
   ·have d2:decide (2*(r:Int)+1+1<(hi:Int))=true:=by simp;omega
    go_wp2_with fail
    have hl:=HH.out.less HB0.out HP.out (first+(2*r+1)) (first+(2*r+1)+1) (by omega) (by omega);try push_cast at hl
    refine hl.mono ?_;clear hl;rintro en w4 ⟨k4,rfl,hp⟩;have HP4:=AA hp;obtain⟨c0,c1⟩:=HC.out _ hp;clear hp;cases k4 with
    |true=>
     go_wp2_with fail
     have hl:=HH.out.less HB0.out HP4.out (first+r) (first+(2*r+1+1)) (by omega) (by omega);try push_cast at hl
     refine hl.mono ?_;clear hl;rintro en w5 ⟨k5,rfl,hp⟩;have HP5:=AA hp;obtain⟨c0,c1⟩:=HC.out _ hp;clear hp;cases k5 with
     |false=>
      go_wp2
      first
       |go_end0
       |refine bodyPost_ret (results_none rfl _ _ _) rfl ?_
      exact⟨rfl,HOff.out _ HP5.out⟩
     |true=>
      obtain⟨w6,hrun,hp⟩:=HH.out.swap HB0.out HP5.out (first+r) (first+(2*r+1+1)) (by omega) (by omega) (by omega);try push_cast at hrun
      have HP6:=AA hp;obtain⟨c0',c1'⟩:=HC.out _ hp;clear hp;go_wp2;go_roundw
      case rel=>exact⟨2*r+1+1,by go_num,by omega,HP6⟩
      case measure=>simp[intOf];omega
    |false=>
     go_wp2_with fail
     have hl:=HH.out.less HB0.out HP4.out (first+r) (first+(2*r+1)) (by omega) (by omega);try push_cast at hl
     refine hl.mono ?_;clear hl;rintro en w5 ⟨k5,rfl,hp⟩;have HP5:=AA hp;obtain⟨c0,c1⟩:=HC.out _ hp;clear hp;cases k5 with
     |false=>
      go_wp2
      first
       |go_end0
       |refine bodyPost_ret (results_none rfl _ _ _) rfl ?_
      exact⟨rfl,HOff.out _ HP5.out⟩
     |true=>
      obtain⟨w6,hrun,hp⟩:=HH.out.swap HB0.out HP5.out (first+r) (first+(2*r+1)) (by omega) (by omega) (by omega);try push_cast at hrun
      have HP6:=AA hp;obtain⟨c0',c1'⟩:=HC.out _ hp;clear hp;go_wp2;go_roundw
      case rel=>exact⟨2*r+1,by go_num,by omega,HP6⟩
      case measure=>simp[intOf];omega
   ·have d2:decide (2*(r:Int)+1+1<(hi:Int))=false:=by simp;omega
    go_wp2_with fail
    have hl:=HH.out.less HB0.out HP.out (first+r) (first+(2*r+1)) (by omega) (by omega);try push_cast at hl
    refine hl.mono ?_;clear hl;rintro en w5 ⟨k5,rfl,hp⟩;have HP5:=AA hp;obtain⟨c0,c1⟩:=HC.out _ hp;clear hp;cases k5 with
    |false=>
     go_wp2
     first
      |go_end0
      |refine bodyPost_ret (results_none rfl _ _ _) rfl ?_
     exact⟨rfl,HOff.out _ HP5.out⟩
    |true=>
     obtain⟨w6,hrun,hp⟩:=HH.out.swap HB0.out HP5.out (first+r) (first+(2*r+1)) (by omega) (by omega) (by omega);try push_cast at hrun
     have HP6:=AA hp;obtain⟨c0',c1'⟩:=HC.out _ hp;clear hp;go_wp2;go_roundw
     case rel=>exact⟨2*r+1,by go_num,by omega,HP6⟩
     case measure=>simp[intOf];omega
  ·have d1:decide ((hi:Int)≤2*(r:Int)+1)=true:=by simp;omega
   go_wp2
   first
    |go_end0
    |refine bodyPost_ret (results_none rfl _ _ _) rfl ?_
   exact⟨rfl,HOff.out _ HP.out⟩
end
end
end Go.Proofs.YtadllffeoibelaaGreat
