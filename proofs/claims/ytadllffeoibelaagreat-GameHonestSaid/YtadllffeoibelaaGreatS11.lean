/-
  What these parts of the proof come to, functions walked and plain laws: OrdP, AcP, Comm. No condition.
-/
import Derived.Test.YtadllffeoibelaaGreatS10
import Derived.Test.YtadllffeoibelaaGreatS7
import Derived.Deep.DeepCutAuto
import Derived.Test.YtadllffeoibelaaGreatS6
import Derived.Test.YtadllffeoibelaaGreatS9
import Derived.Test.YtadllffeoibelaaGreatS5
namespace Go.Proofs.YtadllffeoibelaaGreat
set_option maxRecDepth 100000
set_option maxHeartbeats 32000000
set_option linter.all false

def B7:List Int→List Int→Bool
 |[],[]=>false
 |[],_::_=>true
 |_::_,[]=>false
 |x::a,y::b=>if x=y then B7 a b else decide (x<y)
theorem Dh:∀a,B7 a a=false
 |[]=>rfl
 |x::a=>by rw[B7,if_pos rfl];exact Dh a
theorem D7:∀a b,B7 a b=false→B7 b a=false→a=b
 |[],[],_,_=>rfl
 |[],_::_,h,_=>by cases h
 |_::_,[],_,h=>by cases h
 |x::a,y::b,h,h'=>by
  rw[B7]at h h';by_cases e:x=y
  ·subst e;rw[if_pos rfl]at h h';rw[D7 a b h h']
  ·rw[if_neg e]at h;rw[if_neg (Ne.symm e)]at h';simp at h h';omega
theorem D8:∀a b c,B7 a b=true→B7 b c=true→B7 a c=true
 |[],[],_,h,_=>by cases h
 |_::_,[],_,h,_=>by cases h
 |_,_::_,[],_,h=>by cases h
 |[],_::_,_::_,_,_=>rfl
 |x::a,y::b,z::c,h,h'=>by
  rw[B7]at h h' ⊢;by_cases e:x=y
  ·subst e;rw[if_pos rfl]at h;by_cases e2:x=z
   ·subst e2;rw[if_pos rfl]at h' ⊢;exact D8 a b c h h'
   ·rw[if_neg e2]at h' ⊢;exact h'
  ·rw[if_neg e]at h;by_cases e2:y=z
   ·subst e2;rw[if_neg e];exact h
   ·rw[if_neg e2]at h';simp at h h';rw[if_neg (by omega)];simp;omega
theorem E4{a b:List Int}(h:B7 a b=true):B7 b a=false:=by
 cases hb:B7 b a with
 |false=>rfl
 |true=>have:=D8 a b a h hb;rw[Dh]at this;cases this
theorem GI{a b c:List Int}(h:B7 b a=false)(h':B7 c b=false):B7 c a=false:=by
 cases hc:B7 c a with
 |false=>rfl
 |true=>
  cases hab:B7 a b with
  |true=>have:=D8 c a b hc hab;rw[h']at this;cases this
  |false=>have:=D7 a b hab h;subst this;rw[hc]at h';cases h'
theorem GJ:∀(a b c d:List Int),a.length=b.length→B7 (a++c) (b++d)=if a=b then B7 c d else B7 a b
 |[],[],c,d,_=>by simp
 |x::a,y::b,c,d,h=>by
  rw[List.cons_append,List.cons_append,B7,B7,GJ a b c d (by simpa using h)];by_cases e:x=y
  ·subst e;by_cases e2:a=b
   ·subst e2;simp
   ·simp[e2]
  ·simp[e]
theorem Jo(b:UInt8)(l:List UInt8):Dd (b::l)=b.toNat*256^l.length+Dd l:=by
 have h:∀(l:List UInt8) (v:Nat),l.foldl (fun v b=>v*256+b.toNat) v=v*256^l.length+l.foldl (fun v b=>v*256+b.toNat) 0:=by
  intro l
  induction l with
  |nil=>intro v;simp
  |cons x l ih=>
   intro v;rw[List.foldl_cons,List.foldl_cons,ih (v*256+x.toNat),ih (0*256+x.toNat),Af,Nat.pow_succ];rw[Nat.add_mul,Nat.zero_mul,Nat.zero_add,Nat.mul_assoc,Nat.mul_comm 256];omega
 unfold Dd;rw[List.foldl_cons,h];simp
theorem K5:∀(a b:List UInt8),a.length=b.length→Dd a=Dd b→a=b
 |[],[],_,_=>rfl
 |x::a,y::b,hl,h=>by
  have hl':a.length=b.length:=by simpa using hl
  rw[Jo,Jo,←hl']at h;have h1:=KY a;have h2:=KY b;rw[←hl']at h2;have hx:x.toNat=y.toNat:=by
   rcases Nat.lt_trichotomy x.toNat y.toNat with hh|hh|hh
   ·have:=Nat.mul_le_mul_right (256^a.length) (show x.toNat+1≤y.toNat from hh);rw[Nat.succ_mul]at this;omega
   ·exact hh
   ·have:=Nat.mul_le_mul_right (256^a.length) (show y.toNat+1≤x.toNat from hh);rw[Nat.succ_mul]at this;omega
  rw[hx]at h;rw[UInt8.toNat_inj.1 hx,K5 a b hl' (by omega)]
theorem MR{a b:Nm}(h:Dd a.bytes=Dd b.bytes):a=b:=by
 have:=K5 a.bytes b.bytes rfl h;cases a;cases b
 simp[Nm.bytes]at this;simp[this]
def Jc(v:Vt):List Int:=[(Dd v.parent.bytes:Int),v.slot,v.round,v.kind,v.signer,v.choice,(Dd v.value.bytes:Int),v.support]
theorem K6{a b:Vt}(h:Jc a=Jc b):a=b:=by
 simp only[Jc,List.cons.injEq,and_true]at h;obtain⟨h1,h2,h3,h4,h5,h6,h7,h8⟩:=h;have e1:a.parent=b.parent:=MR (by omega);have e7:a.value=b.value:=MR (by omega);cases a;cases b
 simp_all
theorem Sj(a b:Nm):(Dd a.bytes:Int)=Dd b.bytes↔a=b:=⟨fun h=>MR (by omega),fun h=>by rw[h]⟩
theorem OJ(a b:Nm):DJ a b=decide ((Dd a.bytes:Int)<Dd b.bytes):=by
 unfold DJ;rw[Bool.eq_iff_iff,decide_eq_true_eq,decide_eq_true_eq];omega
theorem EP(a b:Vt):Bg a b=B7 (Jc a) (Jc b):=by
 unfold Bg Jc;simp only[B7,Sj,OJ]
 repeat' split
 all_goals first|rfl|(rename_i h;simp[h])|skip
def Db(l:List UInt8):List Int:=l.map fun b=>(b.toNat:Int)
theorem Ie:∀{a b:List UInt8},Db a=Db b→a=b
 |[],[],_=>rfl
 |x::a,y::b,h=>by
  simp only[Db,List.map_cons,List.cons.injEq]at h;rw[UInt8.toNat_inj.1 (by omega:x.toNat=y.toNat),Ie (a:=a) (b:=b) h.2]
theorem C1:∀a b:List UInt8,CZ a b=!B7 (Db b) (Db a)
 |[],[]=>rfl
 |[],_::_=>rfl
 |_::_,[]=>rfl
 |x::a,y::b=>by
  rw[CZ,C1 a b];simp only[Db,List.map_cons,B7];by_cases e:x=y
  ·subst e;simp
  ·have hn:¬(y.toNat:Int)=x.toNat:=fun h=>e (UInt8.toNat_inj.1 (by omega))
   rw[if_neg e,if_neg hn,Bool.eq_iff_iff];simp only[decide_eq_true_eq,Bool.not_eq_true',decide_eq_false_iff_not,UInt8.lt_iff_toNat_lt];omega
theorem EG:∀a b:List UInt8,Op.bytesLess a b=B7 (Db a) (Db b)
 |[],[]=>rfl
 |[],_::_=>rfl
 |_::_,[]=>rfl
 |x::a,y::b=>by
  simp only[Op.bytesLess,Db,List.map_cons,B7];rw[show B7 (List.map (fun b=>(b.toNat:Int)) a) (List.map (fun b=>(b.toNat:Int)) b)=B7 (Db a) (Db b)from rfl,←EG a b];by_cases e:x=y
  ·subst e;simp
  ·have hn:¬(x.toNat:Int)=y.toNat:=fun h=>e (UInt8.toNat_inj.1 (by omega))
   rw[if_neg hn,Bool.eq_iff_iff];simp[e,UInt8.lt_iff_toNat_lt]
def DH(x y:VS):Bool:=if x.1=y.1 then Op.bytesLess x.2 y.2 else Bg x.1 y.1
def Sk(x:VS):List Int:=Jc x.1++Db x.2
theorem Jp(x y:VS):DH x y=B7 (Sk x) (Sk y):=by
 unfold DH Sk;rw[GJ (Jc x.1) (Jc y.1) _ _ (by simp[Jc]),EG,EP];by_cases e:x.1=y.1
 ·rw[if_pos e,if_pos (by rw[e])]
 ·rw[if_neg e,if_neg (fun h=>e (K6 h))]
theorem Gr:Ord DH where
 asymm x y h:=by rw[Jp]at h ⊢;exact E4 h
 trans x y z h h':=by rw[Jp]at h h' ⊢;exact GI h h'
theorem CT(a:Vt):Bg a a=false:=by rw[EP];exact Dh _
theorem DV{a b c:Vt}(h:Bg a b=true)(h':Bg b c=true):Bg a c=true:=by rw[EP]at h h' ⊢;exact D8 _ _ _ h h'
theorem E5{a b:Vt}(h:Bg a b=false)(h':Bg b a=false):a=b:=by rw[EP]at h h';exact K6 (D7 _ _ h h')
theorem K7{a b:Vt}(h:Bg a b=true):Bg b a=false:=by rw[EP]at h ⊢;exact E4 h
theorem Di(a:List UInt8):CZ a a=true:=by rw[C1,Dh];rfl
theorem Cs{a b c:List UInt8}(h:CZ a b=true)(h':CZ b c=true):CZ a c=true:=by
 rw[C1,Bool.not_eq_true']at*;exact GI h h'
theorem Gs{a b:List UInt8}(h:CZ a b=true)(h':CZ b a=true):a=b:=by
 rw[C1,Bool.not_eq_true']at*;exact Ie (D7 _ _ h' h)
theorem Jd{a b:List UInt8}(h:CZ a b=false):CZ b a=true:=by
 rw[C1]at*;simp at h ⊢;exact E4 h
def DS(c:List VS):Prop:=c.Pairwise fun x y=>Bg x.1 y.1=true
theorem If:∀(c d:List VS),DS c→DS d→(∀x,x∈c↔x∈d)→c=d
 |[],[],_,_,_=>rfl
 |[],y::d,_,_,h=>by have:=(h y).2 (by simp);simp at this
 |x::c,[],_,_,h=>by have:=(h x).1 (by simp);simp at this
 |x::c,y::d,h1,h2,h=>by
  obtain⟨a1,b1⟩:=List.pairwise_cons.1 h1;obtain⟨a2,b2⟩:=List.pairwise_cons.1 h2;have hxy:x=y:=by
   rcases List.mem_cons.1 ((h x).1 (by simp))with e|hx
   ·exact e
   ·rcases List.mem_cons.1 ((h y).2 (by simp))with e|hy
    ·exact e.symm
    ·have:=DV (a1 y hy) (a2 x hx);rw[CT]at this;cases this
  subst hxy;congr 1;refine If c d b1 b2 (fun z=>⟨fun hz=>?_,fun hz=>?_⟩)
  ·rcases List.mem_cons.1 ((h z).1 (by simp[hz]))with e|hz'
   ·subst e;have:=a1 z hz;rw[CT]at this;cases this
   ·exact hz'
  ·rcases List.mem_cons.1 ((h z).2 (by simp[hz]))with e|hz'
   ·subst e;have:=a2 z hz;rw[CT]at this;cases this
   ·exact hz'
theorem DS.same{c:List VS}(h:DS c){x y:VS}(hx:x∈c)(hy:y∈c)(e:x.1=y.1):x=y:=by
 induction c with
 |nil=>cases hx
 |cons z c ih=>
  obtain⟨a,b⟩:=List.pairwise_cons.1 h;rcases List.mem_cons.1 hx with ex|hx
  ·rcases List.mem_cons.1 hy with ey|hy
   ·rw[ex,ey]
   ·have:=a y hy;rw[←ex,e,CT]at this;cases this
  ·rcases List.mem_cons.1 hy with ey|hy
   ·have:=a x hx;rw[←ey,e,CT]at this;cases this
   ·exact ih b hx hy
structure EQ (l c:List VS):Prop where
 asc:DS c
 sub:∀x∈c,x∈l
 dom:∀x∈l,∃y∈c,y.1=x.1∧CZ y.2 x.2=true
theorem EQ.unique{l c d:List VS}(h:EQ l c)(h':EQ l d):c=d:=by
 have half:∀{c d:List VS},EQ l c→EQ l d→∀x,x∈c→x∈d:=by
  intro c d h h' x hx;obtain⟨y,hy,e1,l1⟩:=h'.dom x (h.sub x hx);obtain⟨z,hz,e2,l2⟩:=h.dom y (h'.sub y hy);have hzx:z=x:=h.asc.same hz hx (e2.trans e1);subst hzx;have e3:=Gs l1 l2;have:y=z:=Prod.ext e1 e3;rw[←this];exact hy
 exact If c d h.asc h'.asc (fun x=>⟨half h h' x,half h' h x⟩)
theorem EQ.congr{l l' c:List VS}(h:EQ l c)(hm:∀x,x∈l↔x∈l'):EQ l' c:=⟨h.asc,fun x hx=>(hm x).1 (h.sub x hx),fun x hx=>h.dom x ((hm x).2 hx)⟩
theorem Fn:∀{l:List VS},GH l=true→DS l
 |[],_=>List.Pairwise.nil
 |[_],_=>List.pairwise_singleton _ _
 |x::y::l,h=>by
  rw[GH,Bool.and_eq_true]at h;have ih:=Fn h.2;refine List.pairwise_cons.2 ⟨fun z hz=>?_,ih⟩;rcases List.mem_cons.1 hz with rfl|hz
  ·exact h.1
  ·exact DV h.1 ((List.pairwise_cons.1 ih).1 z hz)
theorem Du{l:List VS}(h:DS l):EQ l l:=⟨h,fun _ hx=>hx,fun x hx=>⟨x,hx,rfl,Di _⟩⟩
theorem Tf{x y:VS}{a b:List VS}(h:x∈a∨x∈b):x∈y::a∨x∈b:=by
 rcases h with h|h
 ·exact .inl (List.mem_cons_of_mem _ h)
 ·exact .inr h
theorem Tg{x y:VS}{a b:List VS}(h:x∈a∨x∈b):x∈a∨x∈y::b:=by
 rcases h with h|h
 ·exact .inl h
 ·exact .inr (List.mem_cons_of_mem _ h)
theorem Ei:∀(n:Nat) (a b:List VS),a.length+b.length≤n→∀x∈CY a b,x∈a∨x∈b
 |_,[],b,_,x,hx=>by rw[Ib]at hx;exact .inr hx
 |_,x::a,[],_,z,hz=>by rw[Ia]at hz;exact .inl hz
 |0,x::a,y::b,h,_,_=>by simp at h
 |n+1,x::a,y::b,h,z,hz=>by
  have h1:=Ei n a (y::b) (by simp at h ⊢;omega) z;have h2:=Ei n (x::a) b (by simp at h ⊢;omega) z;rw[CY]at hz;split at hz
  ·rcases List.mem_cons.1 hz with rfl|hz
   ·exact .inl (by simp)
   ·exact Tf (h1 hz)
  ·split at hz
   ·rcases List.mem_cons.1 hz with rfl|hz
    ·exact .inr (by simp)
    ·exact Tg (h2 hz)
   ·split at hz
    ·exact Tg (h2 hz)
    ·exact Tf (h1 hz)
theorem ST{x z:VS}{a b:List VS}(h:z∈a++b):z∈x::a++b:=List.mem_cons_of_mem _ h
theorem SU{y z:VS}{a b:List VS}(h:z∈a++b):z∈a++y::b:=by
 rcases AP.1 h with h|h
 ·exact AP.2 (.inl h)
 ·exact AP.2 (.inr (List.mem_cons_of_mem _ h))
theorem PN{x z:VS}{a b:List VS}(h:z∈x::a++b)(e:¬z=x):z∈a++b:=by
 rcases List.mem_cons.1 h with h|h
 ·exact absurd h e
 ·exact h
theorem PO{y z:VS}{a b:List VS}(h:z∈a++y::b)(e:¬z=y):z∈a++b:=by
 rcases AP.1 h with h|h
 ·exact AP.2 (.inl h)
 ·rcases List.mem_cons.1 h with h|h
  ·exact absurd h e
  ·exact AP.2 (.inr h)
theorem Fu:∀(n:Nat) (a b:List VS),a.length+b.length≤n→DS a→DS b→EQ (a++b) (CY a b)
 |_,[],b,_,_,hb=>by rw[Ib,List.nil_append];exact Du hb
 |_,x::a,[],_,ha,_=>by rw[Ia,List.append_nil];exact Du ha
 |0,x::a,y::b,h,_,_=>by simp at h
 |n+1,x::a,y::b,h,ha,hb=>by
  have hn1:a.length+(y::b).length≤n:=by simp at h ⊢;omega
  have hn2:(x::a).length+b.length≤n:=by simp at h ⊢;omega
  obtain⟨a1,a2⟩:=List.pairwise_cons.1 ha;obtain⟨b1,b2⟩:=List.pairwise_cons.1 hb;have h1:=Fu n a (y::b) hn1 a2 hb;have h2:=Fu n (x::a) b hn2 ha b2;rw[CY];by_cases c1:Bg x.1 y.1=true
  ·rw[if_pos c1];refine⟨List.pairwise_cons.2 ⟨fun z hz=>?_,h1.asc⟩,fun z hz=>?_,fun z hz=>?_⟩
   ·rcases Ei _ _ _ (AB _) z hz with hz|hz
    ·exact a1 z hz
    ·rcases List.mem_cons.1 hz with rfl|hz
     ·exact c1
     ·exact DV c1 (b1 z hz)
   ·rcases List.mem_cons.1 hz with rfl|hz
    ·simp
    ·exact ST (h1.sub z hz)
   ·by_cases e:z=x
    ·subst e;exact⟨z,by simp,rfl,Di _⟩
    ·obtain⟨u,hu,p⟩:=h1.dom z (PN hz e);exact⟨u,by simp[hu],p⟩
  ·rw[if_neg c1];by_cases c2:Bg y.1 x.1=true
   ·rw[if_pos c2];refine⟨List.pairwise_cons.2 ⟨fun z hz=>?_,h2.asc⟩,fun z hz=>?_,fun z hz=>?_⟩
    ·rcases Ei _ _ _ (AB _) z hz with hz|hz
     ·rcases List.mem_cons.1 hz with rfl|hz
      ·exact c2
      ·exact DV c2 (a1 z hz)
     ·exact b1 z hz
    ·rcases List.mem_cons.1 hz with rfl|hz
     ·simp
     ·exact SU (h2.sub z hz)
    ·by_cases e:z=y
     ·subst e;exact⟨z,by simp,rfl,Di _⟩
     ·obtain⟨u,hu,p⟩:=h2.dom z (PO hz e);exact⟨u,by simp[hu],p⟩
   ·rw[if_neg c2];have exy:x.1=y.1:=E5 (Bool.eq_false_iff.2 c1) (Bool.eq_false_iff.2 c2);by_cases c3:CZ x.2 y.2=true
    ·rw[if_pos c3];refine⟨h2.asc,fun z hz=>?_,fun z hz=>?_⟩
     ·exact SU (h2.sub z hz)
     ·by_cases e:z=y
      ·subst e;obtain⟨u,hu,p1,p2⟩:=h2.dom x (by simp);exact⟨u,hu,p1.trans exy,Cs p2 c3⟩
      ·exact h2.dom z (PO hz e)
    ·rw[if_neg c3];have c4:=Jd (Bool.eq_false_iff.2 c3);refine⟨h1.asc,fun z hz=>?_,fun z hz=>?_⟩
     ·exact ST (h1.sub z hz)
     ·by_cases e:z=x
      ·subst e;obtain⟨u,hu,p1,p2⟩:=h1.dom y (by simp);exact⟨u,hu,p1.trans exy.symm,Cs p2 c4⟩
      ·exact h1.dom z (PN hz e)
theorem Ig:∀(n:Nat) (l:List VS),l.length≤n→EQ l (CD l)
 |0,l,h=>by
  have:l=[]:=AV (by omega);subst this;exact Du List.Pairwise.nil
 |n+1,l,h=>by
  by_cases ha:GH l=true
  ·rw[Ez ha];exact Du (Fn ha)
  ·have h2:2≤l.length:=by
    rcases Nat.lt_or_ge l.length 2 with h3|h3
    ·exact absurd (Dt l (by omega)) ha
    ·exact h3
   rw[MQ ha];have i1:=Ig n (l.take (l.length/2)) (by rw[AZ];omega);have i2:=Ig n (l.drop (l.length/2)) (by rw[List.length_drop];omega);have m:=Fu _ _ _ (AB _) i1.asc i2.asc;refine⟨m.asc,fun x hx=>?_,fun x hx=>?_⟩
   ·rcases AP.1 (m.sub x hx)with hx|hx
    ·exact List.mem_of_mem_take (i1.sub x hx)
    ·exact List.mem_of_mem_drop (i2.sub x hx)
   ·have hx':x∈l.take (l.length/2)++l.drop (l.length/2):=by rw[Aj];exact hx
    rcases AP.1 hx' with hx|hx
    ·obtain⟨y,hy,e1,l1⟩:=i1.dom x hx;obtain⟨z,hz,e2,l2⟩:=m.dom y (by simp[hy]);exact⟨z,hz,e2.trans e1,Cs l2 l1⟩
    ·obtain⟨y,hy,e1,l1⟩:=i2.dom x hx;obtain⟨z,hz,e2,l2⟩:=m.dom y (by simp[hy]);exact⟨z,hz,e2.trans e1,Cs l2 l1⟩
theorem DT(l:List VS):EQ l (CD l):=Ig _ l (AB _)
theorem Ih{l l':List VS}(h:∀x,x∈l↔x∈l'):CD l=CD l':=((DT l).congr h).unique (DT l')
def DF{α:Type}(f:α→Vt)(s:List α):Nat→List α
 |0=>[]
 |i+1=>DF f s i++match s[i]? with
  |some x=>if(i=0∨(s[i-1]?.map f)≠some (f x))then[x]else[]
  |none=>[]
theorem Ii{α β:Type}(f:α→Vt)(f':β→Vt)(k:α→β)(hk:∀x,f' (k x)=f x)(s:List α):∀i,(DF f s i).map k=DF f' (s.map k) i
 |0=>rfl
 |i+1=>by
  rw[DF,DF,Ac,Ii f f' k hk s i,AU,AU];congr 1;rcases s[i]? with _|x
  ·rfl
  ·have e:((s[i-1]?.map k).map f')=s[i-1]?.map f:=by
    rcases s[i-1]? with _|y
    ·rfl
    ·simp[hk]
   simp only[Option.map_some,e,hk];split <;> rfl
theorem K8{α:Type}(f:α→Vt)(s:List α):∀i,(DF f s i).length≤i
 |0=>AB _
 |i+1=>by
  have:=K8 f s i;rw[DF,AI];rcases s[i]? with _|x
  ·simp;omega
  ·simp only;split <;> simp <;> omega
theorem K9(s:List VS)(hs:Asc DH s):∀i,i≤s.length→EQ (s.take i) (DF Prod.fst s i)∧(∀y,0<i→s[i-1]? =some y→∃z,(DF Prod.fst s i).getLast? =some z∧z.1=y.1)
 |0,_=>⟨by simp[DF];exact Du List.Pairwise.nil,fun _ h=>absurd h (Nat.lt_irrefl _)⟩
 |i+1,hi=>by
  obtain⟨h,hl⟩:=K9 s hs i (by omega);obtain⟨x,hx⟩:∃x,s[i]? =some x:=⟨_,AE (by omega)⟩;have ht:s.take (i+1)=s.take i++[x]:=by rw[Ag,hx];rfl
  rw[DF,hx,ht];simp only[];by_cases c:i=0∨(s[i-1]?.map Prod.fst)≠some x.1
  ·rw[if_pos c];refine⟨⟨?_,?_,?_⟩,fun y _ hy=>⟨x,by simp,by rw[Nat.add_sub_cancel,hx]at hy;cases hy;rfl⟩⟩
   ·refine List.pairwise_append.2 ⟨h.asc,List.pairwise_singleton _ _,fun u hu v hv=>?_⟩;rw[AR.1 hv];have hu':=h.sub u hu;obtain⟨k,hk⟩:=List.mem_iff_getElem?.1 hu';rw[Bf]at hk;split at hk
    ·rename_i hki
     have h0:i≠0:=by omega
     obtain⟨y,hy⟩:∃y,s[i-1]? =some y:=⟨_,AE (by omega)⟩;have hne:x.1≠y.1:=by
      rcases c with c|c
      ·exact absurd c h0
      ·rw[hy]at c;intro e;apply c;simp[e]
     have hyx:DH x y=false:=hs.get (by omega) hy hx;have h1:Bg y.1 x.1=true:=by
      unfold DH at hyx;rw[if_neg hne]at hyx;cases hh:Bg y.1 x.1 with
      |true=>rfl
      |false=>exact absurd (E5 hyx hh) hne
     rcases Nat.lt_or_ge k (i-1)with hlt|hge
     ·have huy:DH y u=false:=hs.get hlt hk hy;by_cases e:y.1=u.1
      ·rw[←e];exact h1
      ·unfold DH at huy;rw[if_neg e]at huy;have h2:Bg u.1 y.1=true:=by
        cases hh:Bg u.1 y.1 with
        |true=>rfl
        |false=>exact absurd (E5 huy hh) e
       exact DV h2 h1
     ·obtain rfl:k=i-1:=by omega
      rw[hk]at hy;cases hy;exact h1
    ·cases hk
   ·intro u hu;rcases AP.1 hu with hu|hu
    ·exact AP.2 (.inl (h.sub u hu))
    ·exact AP.2 (.inr hu)
   ·intro u hu;rcases AP.1 hu with hu|hu
    ·obtain⟨y,hy,p⟩:=h.dom u hu;exact⟨y,by simp[hy],p⟩
    ·rw[AR.1 hu];exact⟨x,by simp,rfl,Di _⟩
  ·rw[if_neg c,List.append_nil];have h0:i≠0:=fun e=>c (.inl e)
   obtain⟨y,hy⟩:∃y,s[i-1]? =some y:=⟨_,AE (by omega)⟩;have e:y.1=x.1:=by
    rcases Classical.em (y.1=x.1)with e|e
    ·exact e
    ·exact absurd (.inr (by rw[hy];simpa using e)) c
   obtain⟨z,hz,ez⟩:=hl y (by omega) hy;refine⟨⟨h.asc,fun u hu=>AP.2 (.inl (h.sub u hu)),fun u hu=>?_⟩,fun u _ hu=>?_⟩
   ·rcases AP.1 hu with hu|hu
    ·exact h.dom u hu
    ·rw[AR.1 hu];obtain⟨v,hv,e1,l1⟩:=h.dom y (List.mem_iff_getElem?.2 ⟨i-1,by rw[Bf,if_pos (by omega),hy]⟩);refine⟨v,hv,e1.trans e,Cs l1 ?_⟩;have hyx:DH x y=false:=hs.get (by omega) hy hx;unfold DH at hyx;rw[if_pos e.symm,EG]at hyx;rw[C1,hyx];rfl
   ·rw[Nat.add_sub_cancel,hx]at hu;cases hu;exact⟨z,hz,ez.trans e⟩
theorem LB{l s:List VS}(hp:s.Perm l)(hs:Asc DH s):DF Prod.fst s s.length=CD l:=by
 have h:=(K9 s hs s.length (AB _)).1;rw[List.take_length]at h;exact(h.congr (fun x=>hp.mem_iff)).unique (DT l)
section
open Go.RowKit
theorem C2(x n:Nat):At x (n+1)=At x n+(x.testBit n).toNat:=by
 rw[Nat.toNat_testBit];rfl
theorem Ij(a b:Nat):∀n,At (a&&& b) n+At (a|||b) n=At a n+At b n
 |0=>rfl
 |n+1=>by
  have h:=Ij a b n;rw[C2,C2,C2,C2,Nat.testBit_and,Nat.testBit_or];cases a.testBit n <;> cases b.testBit n <;> simp <;> omega
theorem Dl{a b:Nat}(h:∀i,i<10→a.testBit i=true→b.testBit i=true):∀n,n≤10→At a n≤At b n
 |0,_=>AB _
 |n+1,hn=>by
  have h1:=Dl h n (by omega);have h2:=h n (by omega);rw[C2,C2];cases ha:a.testBit n with
  |false=>simp;omega
  |true=>rw[h2 ha];omega
theorem GK{a:Nat}:∀n,0<At a n→∃i,i<n∧a.testBit i=true
 |0,h=>by simp[At]at h
 |n+1,h=>by
  cases ha:a.testBit n with
  |true=>exact⟨n,by omega,ha⟩
  |false=>
   rw[C2,ha]at h;obtain⟨i,h1,h2⟩:=GK n (by simpa using h);exact⟨i,by omega,h2⟩
def B9(n:Nat):Nat:=n-(n-1)/3
def RH(n:Nat):Nat:=if n<1 then 0 else(n-1)/3+1
def InN(s x:Nat):Prop:=∀i,i<10→s.testBit i=true→x.testBit i=true
theorem PP{x s t:Nat}(hs:InN s x)(ht:InN t x)(h1:B9 (At x 10)≤At s 10)(h2:B9 (At x 10)≤At t 10)(hx:0<At x 10):RH (At x 10)≤At (s&&& t) 10:=by
 have h3:=Ij s t 10;have h4:At (s|||t) 10≤At x 10:=Dl (fun i hi h=>by
  rw[Nat.testBit_or,Bool.or_eq_true]at h;rcases h with h|h
  ·exact hs i hi h
  ·exact ht i hi h) 10 (AB _)
 unfold B9 at h1 h2;unfold RH;rw[if_neg (by omega)];omega
theorem IL{x:Nat}(hx:0<At x 10):0<B9 (At x 10):=by unfold B9;omega
def Jq(a b:Vt):Prop:=a.choice=b.choice∧a.value=b.value
instance (a b:Vt):Decidable (Jq a b):=by unfold Jq;infer_instance
structure MS (x:Nat)(p:Nm)(s:Int)(l O:List Vt):Prop where
 mem:∀v∈O,v∈l
 ok:∀v∈O,Ae v∧v.parent=p∧v.slot=s
 prev:∀v∈O,v.kind=3→2≤v.round→(∃S,InN S x∧B9 (At x 10)≤At S 10∧∀i,i<10→S.testBit i=true→∃w∈O,w.signer=(i:Int)∧w.kind=4∧w.round=v.round-1∧(Jq v w∨w.choice=2))∧
  ∃w∈O,w.round=v.round-1∧Jq v w∧(w.kind=4∨w.kind=3)
 prec:∀v∈O,v.kind=4→v.choice≠2→∃w∈O,w.kind=3∧w.round=v.round∧Jq v w
structure KN (x:Nat)(O:List Vt)(r c:Int)(val:Nm):Prop where
 ne:c≠2
 quo:∃S,InN S x∧B9 (At x 10)≤At S 10∧∀i,i<10→S.testBit i=true→∃w∈O,w.signer=(i:Int)∧w.kind=4∧w.round=r∧w.choice=c∧w.value=val
def Hu(x:Nat)(L:List Vt):Prop:=∃T,InN T x∧RH (At x 10)≤At T 10∧∀i,i<10→T.testBit i=true→∃a∈L,∃b∈L,a.signer=(i:Int)∧IE a b
theorem Hu.mono{x:Nat}{L L':List Vt}(h:Hu x L)(hl:∀v∈L,v∈L'):Hu x L':=by
 obtain⟨T,h1,h2,h3⟩:=h;refine⟨T,h1,h2,fun i hi ht=>?_⟩;obtain⟨a,ha,b,hb,h⟩:=h3 i hi ht;exact⟨a,hl a ha,b,hl b hb,h⟩
theorem LC{x:Nat}{L:List Vt}{S S':Nat}(hS:InN S x)(hS':InN S' x)(h1:B9 (At x 10)≤At S 10)(h2:B9 (At x 10)≤At S' 10)(hx:0<At x 10)(h:∀i,i<10→S.testBit i=true→S'.testBit i=true→∃a∈L,∃b∈L,a.signer=(i:Int)∧IE a b):Hu x L:=
 ⟨S&&& S',fun i hi ht=>by rw[Nat.testBit_and,Bool.and_eq_true]at ht;exact hS i hi ht.1,PP hS hS' h1 h2 hx,fun i hi ht=>by
  rw[Nat.testBit_and,Bool.and_eq_true]at ht;exact h i hi ht.1 ht.2⟩
theorem Je{x:Nat}{p:Nm}{s:Int}{l1 l2 O1 O2:List Vt}(h1:MS x p s l1 O1)(h2:MS x p s l2 O2)(hx:0<At x 10){r c:Int}{val:Nm}(ho:KN x O1 r c val)(hr:1≤r):∀(d:Nat) (v:Vt),v∈O2→v.kind=3→v.round=r+1+(d:Int)→(v.choice≠c∨v.value≠val)→Hu x (l1++l2):=by
 intro d
 induction d with
 |zero=>
  intro v hv hk hrd hne;obtain⟨⟨S,hS,hq,hw⟩,_⟩:=h2.prev v hv hk (by omega);obtain⟨S',hS',hq',hw'⟩:=ho.quo;refine LC hS hS' hq hq' hx fun i hi ht ht'=>?_
  obtain⟨a,ha,a1,a2,a3,a4⟩:=hw i hi ht;obtain⟨b,hb,b1,b2,b3,b4,b5⟩:=hw' i hi ht';obtain⟨va,pa,sa⟩:=h2.ok a ha;obtain⟨vb,pb,sb⟩:=h1.ok b hb;have hne2:=ho.ne;refine⟨a,BU _ (h2.mem a ha),b,BS _ (h1.mem b hb),a1,fun e=>?_,⟨by omega,by rw[pa,pb],by rw[sa,sb],by omega,by omega⟩,va,vb⟩;subst e;rcases a4 with⟨e1,e2⟩|e
  ·rcases hne with h|h
   ·exact h (by omega)
   ·exact h (by rw[e2,b5])
  ·omega
 |succ d ih=>
  intro v hv hk hrd hne;obtain⟨_,w,hw,w1,⟨w2,w3⟩,w4⟩:=h2.prev v hv hk (by omega);rcases w4 with w4|w4
  ·obtain⟨vv,_,_⟩:=h2.ok v hv;have hc:=(vv.2.2.2.2.2.1 hk).2.2.1;obtain⟨u,hu,u1,u2,u3,u4⟩:=h2.prec w hw w4 (by omega);refine ih u hu u1 (by push_cast at hrd ⊢;omega) ?_;rcases hne with h|h
   ·exact .inl (by omega)
   ·exact .inr (by rw[←u4,←w3];exact h)
  ·refine ih w hw w4 (by push_cast at hrd ⊢;omega) ?_;rcases hne with h|h
   ·exact .inl (by omega)
   ·exact .inr (by rw[←w3];exact h)
theorem E6{x:Nat}{O:List Vt}{r c:Int}{val:Nm}(ho:KN x O r c val)(hx:0<At x 10):∃w∈O,w.kind=4∧w.round=r∧w.choice=c∧w.value=val:=by
 obtain⟨S,_,hq,hw⟩:=ho.quo;obtain⟨i,hi,ht⟩:=GK 10 (Nat.lt_of_lt_of_le (IL hx) hq);obtain⟨w,hw,_,r⟩:=hw i hi ht;exact⟨w,hw,r⟩
theorem Ik{x:Nat}{p:Nm}{s:Int}{l1 l2 O1 O2:List Vt}(h1:MS x p s l1 O1)(h2:MS x p s l2 O2)(hx:0<At x 10){r r' c c':Int}{val val':Nm}(ho:KN x O1 r c val)(ho':KN x O2 r' c' val')(hr:1≤r)(hlt:r<r')(hne:val≠val'):Hu x (l1++l2):=by
 obtain⟨w,hw,w1,w2,w3,w4⟩:=E6 ho' hx;obtain⟨u,hu,u1,u2,u3,u4⟩:=h2.prec w hw w1 (by rw[w3];exact ho'.ne);refine Je h1 h2 hx ho hr (u.round-(r+1)).toNat u hu u1 (by omega) (.inr ?_);rw[←u4,w4];exact fun e=>hne e.symm
theorem KO{x:Nat}{p:Nm}{s:Int}{l1 l2 O1 O2:List Vt}(h1:MS x p s l1 O1)(h2:MS x p s l2 O2)(hx:0<At x 10){r r' c c':Int}{val val':Nm}(ho:KN x O1 r c val)(ho':KN x O2 r' c' val')(hne:val≠val'):Hu x (l1++l2):=by
 obtain⟨w,hw,w1,w2,_,_⟩:=E6 ho hx;obtain⟨u,hu,u1,u2,_,_⟩:=E6 ho' hx;have k1:=((h1.ok w hw).1.2.2.2.2.2.2.1 w1).2.1.1;have k2:=((h2.ok u hu).1.2.2.2.2.2.2.1 u1).2.1.1;by_cases e:r=r'
 ·obtain⟨S,hS,hq,hw⟩:=ho.quo;obtain⟨S',hS',hq',hw'⟩:=ho'.quo;refine LC hS hS' hq hq' hx fun i hi ht ht'=>?_
  obtain⟨a,ha,a1,a2,a3,a4,a5⟩:=hw i hi ht;obtain⟨b,hb,b1,b2,b3,b4,b5⟩:=hw' i hi ht';obtain⟨va,pa,sa⟩:=h1.ok a ha;obtain⟨vb,pb,sb⟩:=h2.ok b hb;refine⟨a,BS _ (h1.mem a ha),b,BU _ (h2.mem b hb),a1,fun e=>?_,⟨by omega,by rw[pa,pb],by rw[sa,sb],by omega,by omega⟩,va,vb⟩;subst e;exact hne (by rw[←a5,←b5])
 ·by_cases h:r<r'
  ·exact Ik h1 h2 hx ho ho' (by omega) h hne
  ·exact(Ik h2 h1 hx ho' ho (by omega) (by omega) (fun e=>hne e.symm)).mono fun v hv=>by
    rcases AP.1 hv with h|h
    ·exact BU _ h
    ·exact BS _ h
def xOf(M:Int):Nat:=(M%1024).toNat
theorem MT(M:Int):xOf M<1024:=by unfold xOf;omega
theorem FT(x:Nat)(hx:x<1024):xOf (x:Int)=x:=by unfold xOf;omega
theorem Sl(y:BitVec 64):(y&&& BitVec.ofInt 64 1023).toNat=y.toNat%1024:=by
 rw[BitVec.toNat_and];show y.toNat&&& (2^10-1)=_;rw[Nat.and_two_pow_sub_one_eq_mod]
theorem Sm(y:BitVec 64):(y&&& BitVec.ofInt 64 1).toNat=y.toNat%2:=by
 rw[BitVec.toNat_and];show y.toNat&&& (2^1-1)=_;rw[Nat.and_two_pow_sub_one_eq_mod]
theorem PQ(M:Int):bits .and .i64 M 1023=(xOf M:Int):=by
 show IntKind.i64.wrap ((BitVec.ofInt 64 M&&& BitVec.ofInt 64 1023).toNat:Int)=_;rw[Sl,BitVec.toNat_ofInt,IntKind.wrap_i64];unfold xOf;omega
theorem PR(M:Int):bits .and .i64 M 1=M%2:=by
 show IntKind.i64.wrap ((BitVec.ofInt 64 M&&& BitVec.ofInt 64 1).toNat:Int)=_;rw[Sm,BitVec.toNat_ofInt,IntKind.wrap_i64];omega
theorem RI(M:Int)(i:Nat)(hi:i<10):(M/((2^i:Nat):Int)%2==1)=(xOf M).testBit i:=by
 rw[Nat.testBit_eq_decide_div_mod_eq];unfold xOf;rw[Bool.eq_iff_iff,beq_iff_eq,decide_eq_true_eq];rcases(by omega:i=0∨i=1∨i=2∨i=3∨i=4∨i=5∨i=6∨i=7∨i=8∨i=9)with rfl|rfl|rfl|rfl|rfl|rfl|rfl|rfl|rfl|rfl <;> simp <;> omega
theorem Dv(M:Int)(i:Nat)(hi:i<10)(w:World):Calls Tryz.prog 19 #[.int .i64 M,.int .i64 (i:Int)] w fun e w'=>e= .returned (.bool ((xOf M).testBit i))∧w'=w:=by
 have ha:=PR (M/((2^i:Nat):Int));have hb:=RI M i hi;rw[←ha]at hb;clear ha;generalize (xOf M).testBit i=r at*;rcases(by omega:i=0∨i=1∨i=2∨i=3∨i=4∨i=5∨i=6∨i=7∨i=8∨i=9)with rfl|rfl|rfl|rfl|rfl|rfl|rfl|rfl|rfl|rfl
 all_goals
  simp at hb;go_enter Tryz.func19,Tryz.ntmps19;go_wp2;go_ret;exact⟨rfl,rfl⟩
theorem CU(M:Int)(w:World):Calls Tryz.prog 15 #[.int .i64 M] w fun e w'=>e= .returned (.int .i64 ((At (xOf M) 10:Nat):Int))∧w'=w:=by
 have H:=AA (fun W=>PM (xOf M) W (MT M));have hw:=Ht (xOf M) (MT M);have ha:=PQ M;generalize At (xOf M) 10=r at*;generalize xOf M=x at*;go_enter Tryz.func15,Tryz.ntmps15;go_wp2_with (go_at_call 38;refine(H.out _).mono ?_;rintro en w2 ⟨rfl,hw2⟩;replace hw2:=hw2.symm;subst hw2)
 go_ret;exact⟨rfl,rfl⟩
theorem Ej(n:Nat)(hn:n≤10)(w:World):Calls Tryz.prog 115 #[.int .i64 (n:Int)] w fun e w'=>e= .returned (.int .i64 ((B9 n:Nat):Int))∧w'=w:=by
 rcases(by omega:n=0∨n=1∨n=2∨n=3∨n=4∨n=5∨n=6∨n=7∨n=8∨n=9∨n=10)with rfl|rfl|rfl|rfl|rfl|rfl|rfl|rfl|rfl|rfl|rfl
 all_goals
  go_enter Tryz.func115,Tryz.ntmps115;go_wp2;go_ret;exact⟨rfl,rfl⟩
end
end Go.Proofs.YtadllffeoibelaaGreat
