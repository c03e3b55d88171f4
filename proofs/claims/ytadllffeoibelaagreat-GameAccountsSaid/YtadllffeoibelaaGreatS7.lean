/-
  Parts of the proof. No condition.
-/
import Derived.Test.YtadllffeoibelaaGreatS6
import Derived.RangeFuncNested
import Derived.RangeFuncBox
import Derived.RangeFuncLeaves
import Derived.OwnWalkIn
import Derived.Shelf.Abstract
import Derived.TacticsInMore
import Derived.LoopNIn
import Derived.LoopIn
open Go.Proofs.Tryz
namespace Go.Proofs.YtadllffeoibelaaGreat
set_option maxRecDepth 100000
set_option maxHeartbeats 32000000
set_option linter.all false

def CB:List Int->List Int->Bool
 |[],[]=>false
 |[],_::_=>true
 |_::_,[]=>false
 |x::a,y::b=>if x=y then CB a b else decide (x<y)
theorem EM:∀a,CB a a=false
 |[]=>rfl
 |x::a=>by rw[CB,if_pos rfl];exact EM a
theorem E6:∀a b,CB a b=false->CB b a=false->a=b
 |[],[],_,_=>rfl
 |[],_::_,h,_=>by cases h
 |_::_,[],_,h=>by cases h
 |x::a,y::b,h,h'=>by
  rw[CB]at h h';by_cases e:x=y
  ·subst e;rw[if_pos rfl]at h h';rw[E6 a b h h']
  ·rw[if_neg e]at h;rw[if_neg (Ne.symm e)]at h';simp at h h';omega
theorem E7:∀a b c,CB a b=true->CB b c=true->CB a c=true
 |[],[],_,h,_=>by cases h
 |_::_,[],_,h,_=>by cases h
 |_,_::_,[],_,h=>by cases h
 |[],_::_,_::_,_,_=>rfl
 |x::a,y::b,z::c,h,h'=>by
  rw[CB]at h h' ⊢;by_cases e:x=y
  ·subst e;rw[if_pos rfl]at h;by_cases e2:x=z
   ·subst e2;rw[if_pos rfl]at h' ⊢;exact E7 a b c h h'
   ·rw[if_neg e2]at h' ⊢;exact h'
  ·rw[if_neg e]at h;by_cases e2:y=z
   ·subst e2;rw[if_neg e];exact h
   ·rw[if_neg e2]at h';simp at h h';rw[if_neg (by omega)];simp;omega
theorem E8{a b:List Int}(h:CB a b=true):CB b a=false:=by
 cases hb:CB b a with
 |false=>rfl
 |true=>have:=E7 a b a h hb;rw[EM]at this;cases this
theorem Iz{a b c:List Int}(h:CB b a=false)(h':CB c b=false):CB c a=false:=by
 cases hc:CB c a with
 |false=>rfl
 |true=>
  cases hab:CB a b with
  |true=>have:=E7 c a b hc hab;rw[h']at this;cases this
  |false=>have:=E6 a b hab h;subst this;rw[hc]at h';cases h'
theorem Fy:∀(a b c d:List Int),a.length=b.length->CB (a++c) (b++d)=if a=b then CB c d else CB a b
 |[],[],c,d,_=>by simp
 |x::a,y::b,c,d,h=>by
  rw[List.cons_append,List.cons_append,CB,CB,Fy a b c d (by simpa using h)];by_cases e:x=y
  ·subst e;by_cases e2:a=b
   ·subst e2;simp
   ·simp[e2]
  ·simp[e]
theorem MR(b:UInt8)(l:List UInt8):Cf (b::l)=b.toNat*256^l.length+Cf l:=by
 have h:∀(l:List UInt8) (v:Nat),l.foldl (fun v b=>v*256+b.toNat) v=v*256^l.length+l.foldl (fun v b=>v*256+b.toNat) 0:=by
  intro l
  induction l with
  |nil=>intro v;simp
  |cons x l ih=>
   intro v;rw[List.foldl_cons,List.foldl_cons,ih (v*256+x.toNat),ih (0*256+x.toNat),Ah,Nat.pow_succ];rw[Nat.add_mul,Nat.zero_mul,Nat.zero_add,Nat.mul_assoc,Nat.mul_comm 256];omega
 unfold Cf;rw[List.foldl_cons,h];simp
theorem Og:∀(a b:List UInt8),a.length=b.length->Cf a=Cf b->a=b
 |[],[],_,_=>rfl
 |x::a,y::b,hl,h=>by
  have hl':a.length=b.length:=by simpa using hl
  rw[MR,MR,<-hl']at h;have h1:=J8 a;have h2:=J8 b;rw[<-hl']at h2;have hx:x.toNat=y.toNat:=by
   rcases Nat.lt_trichotomy x.toNat y.toNat with hh|hh|hh
   ·have:=Nat.mul_le_mul_right (256^a.length) (show x.toNat+1<=y.toNat from hh);rw[Nat.succ_mul]at this;omega
   ·exact hh
   ·have:=Nat.mul_le_mul_right (256^a.length) (show y.toNat+1<=x.toNat from hh);rw[Nat.succ_mul]at this;omega
  rw[hx]at h;rw[UInt8.toNat_inj.1 hx,Og a b hl' (by omega)]
theorem QI{a b:Nm}(h:Cf a.bytes=Cf b.bytes):a=b:=by
 have:=Og a.bytes b.bytes rfl h;cases a;cases b
 simp[Nm.bytes]at this;simp[this]
def J6(v:Vt):List Int:=[(Cf v.parent.bytes:Int),v.slot,v.round,v.kind,v.signer,v.choice,(Cf v.value.bytes:Int),v.support]
theorem Oh{a b:Vt}(h:J6 a=J6 b):a=b:=by
 simp only[J6,List.cons.injEq,and_true]at h;obtain⟨h1,h2,h3,h4,h5,h6,h7,h8⟩:=h;have e1:a.parent=b.parent:=QI (by omega);have e7:a.value=b.value:=QI (by omega);cases a;cases b
 simp_all
theorem Um(a b:Nm):(Cf a.bytes:Int)=Cf b.bytes↔a=b:=⟨fun h=>QI (by omega),fun h=>by rw[h]⟩
theorem SV(a b:Nm):Dm a b=decide ((Cf a.bytes:Int)<Cf b.bytes):=by
 unfold Dm;rw[Bool.eq_iff_iff,decide_eq_true_eq,decide_eq_true_eq];omega
theorem EV(a b:Vt):BU a b=CB (J6 a) (J6 b):=by
 unfold BU J6;simp only[CB,Um,SV]
 repeat' split
 all_goals first|rfl|(rename_i h;simp[h])|skip
def EH(l:List UInt8):List Int:=l.map fun b=>(b.toNat:Int)
theorem LO:∀{a b:List UInt8},EH a=EH b->a=b
 |[],[],_=>rfl
 |x::a,y::b,h=>by
  simp only[EH,List.map_cons,List.cons.injEq]at h;rw[UInt8.toNat_inj.1 (by omega:x.toNat=y.toNat),LO (a:=a) (b:=b) h.2]
theorem DW:∀a b:List UInt8,Cx a b=!CB (EH b) (EH a)
 |[],[]=>rfl
 |[],_::_=>rfl
 |_::_,[]=>rfl
 |x::a,y::b=>by
  rw[Cx,DW a b];simp only[EH,List.map_cons,CB];by_cases e:x=y
  ·subst e;simp
  ·have hn:¬(y.toNat:Int)=x.toNat:=fun h=>e (UInt8.toNat_inj.1 (by omega))
   rw[if_neg e,if_neg hn,Bool.eq_iff_iff];simp only[decide_eq_true_eq,Bool.not_eq_true',decide_eq_false_iff_not,UInt8.lt_iff_toNat_lt];omega
theorem FJ:∀a b:List UInt8,Op.bytesLess a b=CB (EH a) (EH b)
 |[],[]=>rfl
 |[],_::_=>rfl
 |_::_,[]=>rfl
 |x::a,y::b=>by
  simp only[Op.bytesLess,EH,List.map_cons,CB];rw[show CB (List.map (fun b=>(b.toNat:Int)) a) (List.map (fun b=>(b.toNat:Int)) b)=CB (EH a) (EH b)from rfl,<-FJ a b];by_cases e:x=y
  ·subst e;simp
  ·have hn:¬(x.toNat:Int)=y.toNat:=fun h=>e (UInt8.toNat_inj.1 (by omega))
   rw[if_neg hn,Bool.eq_iff_iff];simp[e,UInt8.lt_iff_toNat_lt]
def Dn(x y:VS):Bool:=if x.1=y.1 then Op.bytesLess x.2 y.2 else BU x.1 y.1
def Xz(x:VS):List Int:=J6 x.1++EH x.2
theorem MS(x y:VS):Dn x y=CB (Xz x) (Xz y):=by
 unfold Dn Xz;rw[Fy (J6 x.1) (J6 y.1) _ _ (by simp[J6]),FJ,EV];by_cases e:x.1=y.1
 ·rw[if_pos e,if_pos (by rw[e])]
 ·rw[if_neg e,if_neg (fun h=>e (Oh h))]
theorem JT:Ord Dn where
 asymm x y h:=by rw[MS]at h ⊢;exact E8 h
 trans x y z h h':=by rw[MS]at h h' ⊢;exact Iz h h'
theorem Br(a:Vt):BU a a=false:=by rw[EV];exact EM _
theorem EA{a b c:Vt}(h:BU a b=true)(h':BU b c=true):BU a c=true:=by rw[EV]at h h' ⊢;exact E7 _ _ _ h h'
theorem E9{a b:Vt}(h:BU a b=false)(h':BU b a=false):a=b:=by rw[EV]at h h';exact Oh (E6 _ _ h h')
theorem GS{a b:Vt}(h:BU a b=true):BU b a=false:=by rw[EV]at h ⊢;exact E8 h
theorem EN(a:List UInt8):Cx a a=true:=by rw[DW,EM];rfl
theorem DN{a b c:List UInt8}(h:Cx a b=true)(h':Cx b c=true):Cx a c=true:=by
 rw[DW,Bool.not_eq_true']at*;exact Iz h h'
theorem JU{a b:List UInt8}(h:Cx a b=true)(h':Cx b a=true):a=b:=by
 rw[DW,Bool.not_eq_true']at*;exact LO (E6 _ _ h' h)
theorem Ls{a b:List UInt8}(h:Cx a b=false):Cx b a=true:=by
 rw[DW]at*;simp at h ⊢;exact E8 h
def CU(c:List VS):Prop:=c.Pairwise fun x y=>BU x.1 y.1=true
theorem LP:∀(c d:List VS),CU c->CU d->(∀x,x∈c↔x∈d)->c=d
 |[],[],_,_,_=>rfl
 |[],y::d,_,_,h=>by have:=(h y).2 (by simp);simp at this
 |x::c,[],_,_,h=>by have:=(h x).1 (by simp);simp at this
 |x::c,y::d,h1,h2,h=>by
  obtain⟨a1,b1⟩:=List.pairwise_cons.1 h1;obtain⟨a2,b2⟩:=List.pairwise_cons.1 h2;have hxy:x=y:=by
   rcases List.mem_cons.1 ((h x).1 (by simp))with e|hx
   ·exact e
   ·rcases List.mem_cons.1 ((h y).2 (by simp))with e|hy
    ·exact e.symm
    ·have:=EA (a1 y hy) (a2 x hx);rw[Br]at this;cases this
  subst hxy;congr 1;refine LP c d b1 b2 (fun z=>⟨fun hz=>?_,fun hz=>?_⟩)
  ·rcases List.mem_cons.1 ((h z).1 (by simp[hz]))with e|hz'
   ·subst e;have:=a1 z hz;rw[Br]at this;cases this
   ·exact hz'
  ·rcases List.mem_cons.1 ((h z).2 (by simp[hz]))with e|hz'
   ·subst e;have:=a2 z hz;rw[Br]at this;cases this
   ·exact hz'
theorem CU.same{c:List VS}(h:CU c){x y:VS}(hx:x∈c)(hy:y∈c)(e:x.1=y.1):x=y:=by
 induction c with
 |nil=>cases hx
 |cons z c ih=>
  obtain⟨a,b⟩:=List.pairwise_cons.1 h;rcases List.mem_cons.1 hx with ex|hx
  ·rcases List.mem_cons.1 hy with ey|hy
   ·rw[ex,ey]
   ·have:=a y hy;rw[<-ex,e,Br]at this;cases this
  ·rcases List.mem_cons.1 hy with ey|hy
   ·have:=a x hx;rw[<-ey,e,Br]at this;cases this
   ·exact ih b hx hy
structure Fe (l c:List VS):Prop where
 asc:CU c
 sub:∀x∈c,x∈l
 dom:∀x∈l,∃y∈c,y.1=x.1/\Cx y.2 x.2=true
theorem Fe.unique{l c d:List VS}(h:Fe l c)(h':Fe l d):c=d:=by
 have hIP:∀{c d:List VS},Fe l c->Fe l d->∀x,x∈c->x∈d:=by
  intro c d h h' x hx;obtain⟨y,hy,e1,l1⟩:=h'.dom x (h.sub x hx);obtain⟨z,hz,e2,l2⟩:=h.dom y (h'.sub y hy);have hzx:z=x:=h.asc.same hz hx (e2.trans e1);subst hzx;have e3:=JU l1 l2;have:y=z:=Prod.ext e1 e3;rw[<-this];exact hy
 exact LP c d h.asc h'.asc (fun x=>⟨hIP h h' x,hIP h' h x⟩)
theorem Fe.congr{l l' c:List VS}(h:Fe l c)(hm:∀x,x∈l↔x∈l'):Fe l' c:=⟨h.asc,fun x hx=>(hm x).1 (h.sub x hx),fun x hx=>h.dom x ((hm x).2 hx)⟩
theorem Hg:∀{l:List VS},Iy l=true->CU l
 |[],_=>List.Pairwise.nil
 |[_],_=>List.pairwise_singleton _ _
 |x::y::l,h=>by
  rw[Iy,Bool.and_eq_true]at h;have ih:=Hg h.2;refine List.pairwise_cons.2 ⟨fun z hz=>?_,ih⟩;rcases List.mem_cons.1 hz with rfl|hz
  ·exact h.1
  ·exact EA h.1 ((List.pairwise_cons.1 ih).1 z hz)
theorem Em{l:List VS}(h:CU l):Fe l l:=⟨h,fun _ hx=>hx,fun x hx=>⟨x,hx,rfl,EN _⟩⟩
theorem Yv{x y:VS}{a b:List VS}(h:x∈a∨x∈b):x∈y::a∨x∈b:=by
 rcases h with h|h
 ·exact .inl (List.mem_cons_of_mem _ h)
 ·exact .inr h
theorem Yw{x y:VS}{a b:List VS}(h:x∈a∨x∈b):x∈a∨x∈y::b:=by
 rcases h with h|h
 ·exact .inl h
 ·exact .inr (List.mem_cons_of_mem _ h)
theorem Fz:∀(n:Nat) (a b:List VS),a.length+b.length<=n->∀x∈Cu a b,x∈a∨x∈b
 |_,[],b,_,x,hx=>by rw[LI]at hx;exact .inr hx
 |_,x::a,[],_,z,hz=>by rw[LH]at hz;exact .inl hz
 |0,x::a,y::b,h,_,_=>by simp at h
 |n+1,x::a,y::b,h,z,hz=>by
  have h1:=Fz n a (y::b) (by simp at h ⊢;omega) z;have h2:=Fz n (x::a) b (by simp at h ⊢;omega) z;rw[Cu]at hz;split at hz
  ·rcases List.mem_cons.1 hz with rfl|hz
   ·exact .inl (by simp)
   ·exact Yv (h1 hz)
  ·split at hz
   ·rcases List.mem_cons.1 hz with rfl|hz
    ·exact .inr (by simp)
    ·exact Yw (h2 hz)
   ·split at hz
    ·exact Yw (h2 hz)
    ·exact Yv (h1 hz)
theorem Wt{x z:VS}{a b:List VS}(h:z∈a++b):z∈x::a++b:=List.mem_cons_of_mem _ h
theorem Wu{y z:VS}{a b:List VS}(h:z∈a++b):z∈a++y::b:=by
 rcases AP.1 h with h|h
 ·exact AP.2 (.inl h)
 ·exact AP.2 (.inr (List.mem_cons_of_mem _ h))
theorem Un{x z:VS}{a b:List VS}(h:z∈x::a++b)(e:¬z=x):z∈a++b:=by
 rcases List.mem_cons.1 h with h|h
 ·exact absurd h e
 ·exact h
theorem Uo{y z:VS}{a b:List VS}(h:z∈a++y::b)(e:¬z=y):z∈a++b:=by
 rcases AP.1 h with h|h
 ·exact AP.2 (.inl h)
 ·rcases List.mem_cons.1 h with h|h
  ·exact absurd h e
  ·exact AP.2 (.inr h)
theorem IK:∀(n:Nat) (a b:List VS),a.length+b.length<=n->CU a->CU b->Fe (a++b) (Cu a b)
 |_,[],b,_,_,hb=>by rw[LI,List.nil_append];exact Em hb
 |_,x::a,[],_,ha,_=>by rw[LH,List.append_nil];exact Em ha
 |0,x::a,y::b,h,_,_=>by simp at h
 |n+1,x::a,y::b,h,ha,hb=>by
  have hn1:a.length+(y::b).length<=n:=by simp at h ⊢;omega
  have hn2:(x::a).length+b.length<=n:=by simp at h ⊢;omega
  obtain⟨a1,a2⟩:=List.pairwise_cons.1 ha;obtain⟨b1,b2⟩:=List.pairwise_cons.1 hb;have h1:=IK n a (y::b) hn1 a2 hb;have h2:=IK n (x::a) b hn2 ha b2;rw[Cu];by_cases c1:BU x.1 y.1=true
  ·rw[if_pos c1];refine⟨List.pairwise_cons.2 ⟨fun z hz=>?_,h1.asc⟩,fun z hz=>?_,fun z hz=>?_⟩
   ·rcases Fz _ _ _ (AB _) z hz with hz|hz
    ·exact a1 z hz
    ·rcases List.mem_cons.1 hz with rfl|hz
     ·exact c1
     ·exact EA c1 (b1 z hz)
   ·rcases List.mem_cons.1 hz with rfl|hz
    ·simp
    ·exact Wt (h1.sub z hz)
   ·by_cases e:z=x
    ·subst e;exact⟨z,by simp,rfl,EN _⟩
    ·obtain⟨u,hu,p⟩:=h1.dom z (Un hz e);exact⟨u,by simp[hu],p⟩
  ·rw[if_neg c1];by_cases c2:BU y.1 x.1=true
   ·rw[if_pos c2];refine⟨List.pairwise_cons.2 ⟨fun z hz=>?_,h2.asc⟩,fun z hz=>?_,fun z hz=>?_⟩
    ·rcases Fz _ _ _ (AB _) z hz with hz|hz
     ·rcases List.mem_cons.1 hz with rfl|hz
      ·exact c2
      ·exact EA c2 (a1 z hz)
     ·exact b1 z hz
    ·rcases List.mem_cons.1 hz with rfl|hz
     ·simp
     ·exact Wu (h2.sub z hz)
    ·by_cases e:z=y
     ·subst e;exact⟨z,by simp,rfl,EN _⟩
     ·obtain⟨u,hu,p⟩:=h2.dom z (Uo hz e);exact⟨u,by simp[hu],p⟩
   ·rw[if_neg c2];have exy:x.1=y.1:=E9 (Bool.eq_false_iff.2 c1) (Bool.eq_false_iff.2 c2);by_cases c3:Cx x.2 y.2=true
    ·rw[if_pos c3];refine⟨h2.asc,fun z hz=>?_,fun z hz=>?_⟩
     ·exact Wu (h2.sub z hz)
     ·by_cases e:z=y
      ·subst e;obtain⟨u,hu,p1,p2⟩:=h2.dom x (by simp);exact⟨u,hu,p1.trans exy,DN p2 c3⟩
      ·exact h2.dom z (Uo hz e)
    ·rw[if_neg c3];have c4:=Ls (Bool.eq_false_iff.2 c3);refine⟨h1.asc,fun z hz=>?_,fun z hz=>?_⟩
     ·exact Wt (h1.sub z hz)
     ·by_cases e:z=x
      ·subst e;obtain⟨u,hu,p1,p2⟩:=h1.dom y (by simp);exact⟨u,hu,p1.trans exy.symm,DN p2 c4⟩
      ·exact h1.dom z (Un hz e)
theorem LQ:∀(n:Nat) (l:List VS),l.length<=n->Fe l (B8 l)
 |0,l,h=>by
  have:l=[]:=AV (by omega);subst this;exact Em List.Pairwise.nil
 |n+1,l,h=>by
  by_cases ha:Iy l=true
  ·rw[GR ha];exact Em (Hg ha)
  ·have h2:2<=l.length:=by
    rcases Nat.lt_or_ge l.length 2 with h3|h3
    ·exact absurd (El l (by omega)) ha
    ·exact h3
   rw[QH ha];have i1:=LQ n (l.take (l.length/2)) (by rw[AZ];omega);have i2:=LQ n (l.drop (l.length/2)) (by rw[List.length_drop];omega);have m:=IK _ _ _ (AB _) i1.asc i2.asc;refine⟨m.asc,fun x hx=>?_,fun x hx=>?_⟩
   ·rcases AP.1 (m.sub x hx)with hx|hx
    ·exact List.mem_of_mem_take (i1.sub x hx)
    ·exact List.mem_of_mem_drop (i2.sub x hx)
   ·have hx':x∈l.take (l.length/2)++l.drop (l.length/2):=by rw[An];exact hx
    rcases AP.1 hx' with hx|hx
    ·obtain⟨y,hy,e1,l1⟩:=i1.dom x hx;obtain⟨z,hz,e2,l2⟩:=m.dom y (by simp[hy]);exact⟨z,hz,e2.trans e1,DN l2 l1⟩
    ·obtain⟨y,hy,e1,l1⟩:=i2.dom x hx;obtain⟨z,hz,e2,l2⟩:=m.dom y (by simp[hy]);exact⟨z,hz,e2.trans e1,DN l2 l1⟩
theorem DE(l:List VS):Fe l (B8 l):=LQ _ l (AB _)
def Di{α:Type}(f:α->Vt)(s:List α):Nat->List α
 |0=>[]
 |i+1=>Di f s i++match s[i]? with
  |some x=>if(i=0∨(s[i-1]?.map f)≠some (f x))then[x]else[]
  |none=>[]
theorem LR{α β:Type}(f:α->Vt)(f':β->Vt)(k:α->β)(hk:∀x,f' (k x)=f x)(s:List α):∀i,(Di f s i).map k=Di f' (s.map k) i
 |0=>rfl
 |i+1=>by
  rw[Di,Di,Ae,LR f f' k hk s i,AQ,AQ];congr 1;rcases s[i]? with _|x
  ·rfl
  ·have e:((s[i-1]?.map k).map f')=s[i-1]?.map f:=by
    rcases s[i-1]? with _|y
    ·rfl
    ·simp[hk]
   simp only[Option.map_some,e,hk];split <;> rfl
theorem Oi{α:Type}(f:α->Vt)(s:List α):∀i,(Di f s i).length<=i
 |0=>AB _
 |i+1=>by
  have:=Oi f s i;rw[Di,AF];rcases s[i]? with _|x
  ·simp;omega
  ·simp only;split <;> simp <;> omega
theorem Oj(s:List VS)(hs:Asc Dn s):∀i,i<=s.length->Fe (s.take i) (Di Prod.fst s i)/\(∀y,0<i->s[i-1]? =some y->∃z,(Di Prod.fst s i).getLast? =some z/\z.1=y.1)
 |0,_=>⟨by simp[Di];exact Em List.Pairwise.nil,fun _ h=>absurd h (Nat.lt_irrefl _)⟩
 |i+1,hi=>by
  obtain⟨h,hl⟩:=Oj s hs i (by omega);obtain⟨x,hx⟩:∃x,s[i]? =some x:=⟨_,AD (by omega)⟩;have ht:s.take (i+1)=s.take i++[x]:=by rw[Ai,hx];rfl
  rw[Di,hx,ht];simp only[];by_cases c:i=0∨(s[i-1]?.map Prod.fst)≠some x.1
  ·rw[if_pos c];refine⟨⟨?_,?_,?_⟩,fun y _ hy=>⟨x,by simp,by rw[Nat.add_sub_cancel,hx]at hy;cases hy;rfl⟩⟩
   ·refine List.pairwise_append.2 ⟨h.asc,List.pairwise_singleton _ _,fun u hu v hv=>?_⟩;rw[AU.1 hv];have hu':=h.sub u hu;obtain⟨k,hk⟩:=List.mem_iff_getElem?.1 hu';rw[BP]at hk;split at hk
    ·rename_i hki
     have h0:i≠0:=by omega
     obtain⟨y,hy⟩:∃y,s[i-1]? =some y:=⟨_,AD (by omega)⟩;have hne:x.1≠y.1:=by
      rcases c with c|c
      ·exact absurd c h0
      ·rw[hy]at c;intro e;apply c;simp[e]
     have hyx:Dn x y=false:=hs.get (by omega) hy hx;have h1:BU y.1 x.1=true:=by
      unfold Dn at hyx;rw[if_neg hne]at hyx;cases hh:BU y.1 x.1 with
      |true=>rfl
      |false=>exact absurd (E9 hyx hh) hne
     rcases Nat.lt_or_ge k (i-1)with hlt|hge
     ·have huy:Dn y u=false:=hs.get hlt hk hy;by_cases e:y.1=u.1
      ·rw[<-e];exact h1
      ·unfold Dn at huy;rw[if_neg e]at huy;have h2:BU u.1 y.1=true:=by
        cases hh:BU u.1 y.1 with
        |true=>rfl
        |false=>exact absurd (E9 huy hh) e
       exact EA h2 h1
     ·obtain rfl:k=i-1:=by omega
      rw[hk]at hy;cases hy;exact h1
    ·cases hk
   ·intro u hu;rcases AP.1 hu with hu|hu
    ·exact AP.2 (.inl (h.sub u hu))
    ·exact AP.2 (.inr hu)
   ·intro u hu;rcases AP.1 hu with hu|hu
    ·obtain⟨y,hy,p⟩:=h.dom u hu;exact⟨y,by simp[hy],p⟩
    ·rw[AU.1 hu];exact⟨x,by simp,rfl,EN _⟩
  ·rw[if_neg c,List.append_nil];have h0:i≠0:=fun e=>c (.inl e)
   obtain⟨y,hy⟩:∃y,s[i-1]? =some y:=⟨_,AD (by omega)⟩;have e:y.1=x.1:=by
    rcases Classical.em (y.1=x.1)with e|e
    ·exact e
    ·exact absurd (.inr (by rw[hy];simpa using e)) c
   obtain⟨z,hz,ez⟩:=hl y (by omega) hy;refine⟨⟨h.asc,fun u hu=>AP.2 (.inl (h.sub u hu)),fun u hu=>?_⟩,fun u _ hu=>?_⟩
   ·rcases AP.1 hu with hu|hu
    ·exact h.dom u hu
    ·rw[AU.1 hu];obtain⟨v,hv,e1,l1⟩:=h.dom y (List.mem_iff_getElem?.2 ⟨i-1,by rw[BP,if_pos (by omega),hy]⟩);refine⟨v,hv,e1.trans e,DN l1 ?_⟩;have hyx:Dn x y=false:=hs.get (by omega) hy hx;unfold Dn at hyx;rw[if_pos e.symm,FJ]at hyx;rw[DW,hyx];rfl
   ·rw[Nat.add_sub_cancel,hx]at hu;cases hu;exact⟨z,hz,ez.trans e⟩
theorem Ok{l s:List VS}(hp:s.Perm l)(hs:Asc Dn s):Di Prod.fst s s.length=B8 l:=by
 have h:=(Oj s hs s.length (AB _)).1;rw[List.take_length]at h;exact(h.congr (fun x=>hp.mem_iff)).unique (DE l)

structure Ky where
 kind:Int
 slot:Int
 round:Int
 signer:Int
 parent:Nm
 deriving DecidableEq
def Cs(v:Vt):Ky:=⟨v.kind,v.slot,v.round,v.signer,v.parent⟩
theorem KJ(a b:Vt):Jp a b↔Cs a=Cs b:=by
 unfold Jp Cs;simp only[Ky.mk.injEq];constructor
 ·rintro⟨h1,h2,h3,h4,h5⟩;exact⟨h1,h3,h4,h5,h2⟩
 ·rintro⟨h1,h3,h4,h5,h2⟩;exact⟨h1,h2,h3,h4,h5⟩
def I0(v:Vt):List Int:=[(Cf v.parent.bytes:Int),v.slot,v.round,v.kind,v.signer]
theorem Wf{a b:Vt}:I0 a=I0 b↔Cs a=Cs b:=by
 unfold I0 Cs;simp only[List.cons.injEq,and_true,Um,Ky.mk.injEq];constructor
 ·rintro⟨h1,h2,h3,h4,h5⟩;exact⟨h4,h2,h3,h5,h1⟩
 ·rintro⟨h4,h2,h3,h5,h1⟩;exact⟨h1,h2,h3,h4,h5⟩
theorem Ol{a b:Vt}(h:BU a b=true):I0 a=I0 b∨CB (I0 a) (I0 b)=true:=by
 rw[EV,show J6 a=I0 a++[a.choice,(Cf a.value.bytes:Int),a.support]from rfl,show J6 b=I0 b++[b.choice,(Cf b.value.bytes:Int),b.support]from rfl,Fy (I0 a) (I0 b) _ _ (by simp[I0])]at h;by_cases e:I0 a=I0 b
 ·exact .inl e
 ·rw[if_neg e]at h;exact .inr h
theorem IL{a b c:Vt}(h:BU a b=true)(h':BU b c=true)(e:Cs a=Cs c):Cs a=Cs b:=by
 rw[<-Wf]at e ⊢;rcases Ol h with h1|h1
 ·exact h1
 ·rcases Ol h' with h2|h2
  ·rw[e,h2]
  ·rw[e]at h1;have:=E8 h1;rw[h2]at this;cases this
def Bw(κ:Ky):List Sg->Option Sg
 |[]=>none
 |x::r=>if Cs x.vote=κ then some x else Bw κ r
def Cy(l:List Sg):Prop:=l.Pairwise fun x y=>BU x.vote y.vote=true
theorem Om(l:List Sg):Cy l↔CU (l.map Sg.vs):=by unfold Cy CU;rw[List.pairwise_map]
theorem FK(κ:Ky)(s:Sg):∀l,Bw κ (l++[s])=(Bw κ l).or (if Cs s.vote=κ then some s else none)
 |[]=>by rw[List.nil_append,Bw,Bw];simp[Bw]
 |x::r=>by
  rw[List.cons_append,Bw,Bw,FK κ s r];by_cases h:Cs x.vote=κ
  ·rw[if_pos h,if_pos h];rfl
  ·rw[if_neg h,if_neg h]
theorem F0{κ:Ky}{a:Sg}:∀{l:List Sg},Bw κ l=some a->a∈l/\Cs a.vote=κ
 |[],h=>by cases h
 |x::r,h=>by
  rw[Bw]at h;by_cases e:Cs x.vote=κ
  ·rw[if_pos e]at h;cases h;exact⟨by simp,e⟩
  ·rw[if_neg e]at h;have:=F0 h;exact⟨List.mem_cons_of_mem _ this.1,this.2⟩
theorem Jt{κ:Ky}:∀{l:List Sg},Bw κ l=none->∀x∈l,Cs x.vote≠κ
 |[],_,_,hx=>by cases hx
 |x::r,h,y,hy=>by
  rw[Bw]at h;by_cases e:Cs x.vote=κ
  ·rw[if_pos e]at h;cases h
  ·rw[if_neg e]at h;rcases List.mem_cons.1 hy with rfl|hy
   ·exact e
   ·exact Jt h y hy
theorem D1(i:Nat)(s:Sg):∀l:List Sg,BY i (l++[s])=(BY i l).or (match l.getLast? with |some y=>if y.vote.signer=(i:Int)/\CN y.vote s.vote then some ⟨y,s⟩else none|none=>none)
 |[]=>rfl
 |[x]=>by
  show BY i [x,s]=_;rw[BY];by_cases h:x.vote.signer=(i:Int)/\CN x.vote s.vote
  ·rw[if_pos h];simp[BY,h]
  ·rw[if_neg h];simp[BY,h]
 |x::y::r=>by
  have ih:=D1 i s (y::r);rw[List.cons_append,List.cons_append,BY,BY];rw[List.cons_append]at ih;by_cases h:x.vote.signer=(i:Int)/\CN x.vote y.vote
  ·rw[if_pos h,if_pos h];rfl
  ·rw[if_neg h,if_neg h,ih,List.getLast?_cons_cons]
theorem Ju{i:Nat}{s:Sg}{l:List Sg}(h:∀y,l.getLast? =some y->¬(y.vote.signer=(i:Int)/\CN y.vote s.vote)):BY i (l++[s])=BY i l:=by
 rw[D1];rcases hl:l.getLast? with _|y
 ·simp
 ·simp[h y hl]
theorem On{i:Nat}{s:Sg}{l:List Sg}(h:Bw (Cs s.vote) l=none):BY i (l++[s])=BY i l:=
 Ju fun y hy hc=>Jt h y (List.mem_of_getLast? hy) ((KJ _ _).1 hc.2.2.1)
theorem LS{i:Nat}{s:Sg}{l:List Sg}(h:s.vote.signer≠(i:Int)):BY i (l++[s])=BY i l:=
 Ju fun y _ hc=>h (by rw[<-hc.2.2.1.2.2.2.2];exact hc.1)
theorem SW{i:Nat}{s:Sg}{l:List Sg}{e:Ev}(h:BY i l=some e):BY i (l++[s])=some e:=by rw[D1,h];rfl
theorem JV{x y:Sg}(hx:Ab x.vote)(hy:Ab y.vote)(hl:BU x.vote y.vote=true)(hk:Cs x.vote=Cs y.vote):CN x.vote y.vote:=
 ⟨(fun e=>by rw[e,Br]at hl;cases hl),(KJ _ _).2 hk,hx,hy⟩
theorem RJ{i:Nat}{a s:Sg}(hs:Ab s.vote)(hi:s.vote.signer=(i:Int)):∀{l:List Sg},Cy (l++[s])->(∀x∈l,Ab x.vote)->Bw (Cs s.vote) l=some a->BY i l=none->l.getLast? =some a
 |[],_,_,h,_=>by cases h
 |[x],_,_,h,_=>by
  rw[Bw]at h;split at h
  ·exact h
  ·cases h
 |x::y::r,hst,hv,h,hc=>by
  have hFl:Cy (x::(y::r++[s])):=hst;obtain⟨h1,h2⟩:=List.pairwise_cons.1 hFl;have hxy:BU x.vote y.vote=true:=h1 y (by simp);have hys:BU y.vote s.vote=true:=(List.pairwise_cons.1 (show Cy (y::(r++[s]))from h2)).1 s (by simp);have hcc:¬(x.vote.signer=(i:Int)/\CN x.vote y.vote):=fun hh=>by rw[BY,if_pos hh]at hc;cases hc
  rw[BY,if_neg hcc]at hc;have hx:¬Cs x.vote=Cs s.vote:=by
   intro e;have e2:=IL hxy hys e;refine hcc ⟨?_,JV (hv x (by simp)) (hv y (by simp)) hxy e2⟩;rw[<-hi];exact congrArg Ky.signer e
  rw[Bw,if_neg hx]at h;rw[List.getLast?_cons_cons];exact RJ hs hi h2 (fun z hz=>hv z (List.mem_cons_of_mem _ hz)) h hc
theorem QJ{i:Nat}{a s:Sg}{l:List Sg}(hs:Ab s.vote)(hi:s.vote.signer=(i:Int))(hst:Cy (l++[s]))(hv:∀x∈l,Ab x.vote)(h:Bw (Cs s.vote) l=some a)(hc:BY i l=none):BY i (l++[s])=some ⟨a,s⟩:=by
 have hl:=RJ hs hi hst hv h hc;obtain⟨ha,hk⟩:=F0 h;rw[D1,hc,hl];have hlt:BU a.vote s.vote=true:=(List.pairwise_append.1 hst).2.2 a ha s (by simp);simp only[Option.none_or];rw[if_pos];refine⟨?_,JV (hv a ha) hs hlt hk⟩;rw[<-hi];exact congrArg Ky.signer hk
theorem LT{i:Nat}{a s:Sg}{e:Ev}(hs:Ab s.vote)(hi:s.vote.signer=(i:Int)):∀{l:List Sg},Cy (l++[s])->(∀x∈l,Ab x.vote)->Bw (Cs s.vote) l=some a->BY i l=some e->BU a.vote e.a.vote=false
 |[],_,_,h,_=>by cases h
 |[x],_,_,_,hc=>by cases hc
 |x::y::r,hst,hv,h,hc=>by
  have hFl:Cy (x::(y::r++[s])):=hst;obtain⟨h1,h2⟩:=List.pairwise_cons.1 hFl;have hxy:BU x.vote y.vote=true:=h1 y (by simp);have hys:BU y.vote s.vote=true:=(List.pairwise_cons.1 (show Cy (y::(r++[s]))from h2)).1 s (by simp);rw[BY]at hc;by_cases hcc:x.vote.signer=(i:Int)/\CN x.vote y.vote
  ·rw[if_pos hcc]at hc;cases hc
   rcases List.mem_cons.1 (F0 h).1 with rfl|ha
   ·exact Br _
   ·exact GS (h1 a (by simpa using Or.inl (List.mem_cons.1 ha)|>.elim (fun h=>by rcases h with h|h <;> simp[h]) id))
  ·rw[if_neg hcc]at hc;have hx:¬Cs x.vote=Cs s.vote:=by
    intro e;have e2:=IL hxy hys e;refine hcc ⟨?_,JV (hv x (by simp)) (hv y (by simp)) hxy e2⟩;rw[<-hi];exact congrArg Ky.signer e
   rw[Bw,if_neg hx]at h;exact LT hs hi h2 (fun z hz=>hv z (List.mem_cons_of_mem _ hz)) h hc

abbrev ES:=VS×VS
abbrev Ev.vs(e:Ev):ES:=(e.a.vs,e.b.vs)
def DR(s:Nat):List VS->Option ES
 |x::y::r=>if x.1.signer=(s:Int)/\CN x.1 y.1 then some (x,y)else DR s (y::r)
 |_=>none
def CY(c:List VS)(k:Nat):List ES:=(List.range k).filterMap fun s=>DR s c
theorem LU(s:Nat):∀l:List Sg,DR s (l.map Sg.vs)=(BY s l).map Ev.vs
 |[]=>rfl
 |[_]=>rfl
 |x::y::r=>by
  have ih:=LU s (y::r);rw[List.map_cons,List.map_cons,DR,BY];rw[List.map_cons]at ih;by_cases h:x.vote.signer=(s:Int)/\CN x.vote y.vote
  ·rw[if_pos h,if_pos h];rfl
  ·rw[if_neg h,if_neg h,ih]
theorem SX(l:List Sg)(k:Nat):CY (l.map Sg.vs) k=(LL l k).map Ev.vs:=by
 unfold CY LL;rw[List.map_filterMap];congr 1
 funext s
 exact LU s l
theorem C9{s:Nat}{e:ES}:∀{c:List VS},DR s c=some e->e.1∈c/\e.2∈c/\e.1.1.signer=(s:Int)/\CN e.1.1 e.2.1/\(CU c->BU e.1.1 e.2.1=true)
 |[],h=>by cases h
 |[_],h=>by cases h
 |x::y::r,h=>by
  rw[DR]at h;split at h
  ·rename_i hc
   cases h
   exact⟨by simp,by simp,hc.1,hc.2,fun hs=>(List.pairwise_cons.1 hs).1 y (by simp)⟩
  ·obtain⟨h1,h2,h3,h4,h5⟩:=C9 h;exact⟨List.mem_cons_of_mem _ h1,List.mem_cons_of_mem _ h2,h3,h4,fun hs=>h5 (List.pairwise_cons.1 hs).2⟩
theorem Jv{s:Nat}:∀{c:List VS},CU c->(∀x∈c,Ab x.1)->DR s c=none->∀x∈c,∀y∈c,x.1.signer=(s:Int)->BU x.1 y.1=true->¬CN x.1 y.1
 |[],_,_,_,_,hx,_,_,_,_=>by cases hx
 |[z],_,_,_,x,hx,y,hy,_,hl=>by
  rw[AU.1 hx,AU.1 hy,Br]at hl;cases hl
 |a::b::r,hs,hv,h,x,hx,y,hy,hsg,hl=>by
  obtain⟨h1,h2⟩:=List.pairwise_cons.1 hs;have hn:¬(a.1.signer=(s:Int)/\CN a.1 b.1):=fun hh=>by rw[DR,if_pos hh]at h;cases h
  rw[DR,if_neg hn]at h;have ih:=Jv h2 (fun z hz=>hv z (List.mem_cons_of_mem _ hz)) h;rcases List.mem_cons.1 hx with rfl|hx2
  ·rcases List.mem_cons.1 hy with rfl|hy2
   ·rw[Br]at hl;cases hl
   ·intro hc;rcases List.mem_cons.1 hy2 with rfl|hy3
    ·exact hn ⟨hsg,hc⟩
    ·have hxb:=h1 b (by simp);have hk:=IL hxb ((List.pairwise_cons.1 h2).1 y hy3) ((KJ _ _).1 hc.2.1);exact hn ⟨hsg,⟨(fun e=>by rw[e,Br]at hxb;cases hxb),(KJ _ _).2 hk,hv x (by simp),hv b (by simp)⟩⟩
  ·rcases List.mem_cons.1 hy with rfl|hy2
   ·have:=GS (h1 x hx2);rw[hl]at this;cases this
   ·exact ih x hx2 y hy2 hsg hl
theorem QK{s:Nat}{c:List VS}(hs:CU c)(hv:∀x∈c,Ab x.1):(DR s c).isSome=true↔∃x∈c,∃y∈c,x.1.signer=(s:Int)/\CN x.1 y.1:=by
 constructor
 ·intro h;obtain⟨e,he⟩:=Option.isSome_iff_exists.1 h;obtain⟨h1,h2,h3,h4,_⟩:=C9 he;exact⟨_,h1,_,h2,h3,h4⟩
 ·rintro⟨x,hx,y,hy,h3,h4⟩;cases h:DR s c with
  |some e=>rfl
  |none=>
   exfalso;have full:=Jv hs hv h;cases hl:BU x.1 y.1 with
   |true=>exact full x hx y hy h3 hl h4
   |false=>
    cases hl2:BU y.1 x.1 with
    |true=>exact full y hy x hx (by rw[<-h4.2.1.2.2.2.2];exact h3) hl2 h4.symm
    |false=>exact h4.1 (E9 hl hl2)
def vfS(keys:List Nm)(l:List VS):List VS:=l.filter fun x=>Fc keys x.1 x.2
theorem X0(keys:List Nm)(l:List Sg):(vfd keys l).map Sg.vs=vfS keys (l.map Sg.vs):=by
 unfold vfd vfS;rw[List.filter_map];rfl
theorem QL{keys:List Nm}{v:Vt}{g:List UInt8}(h:Fc keys v g=true):Ab v:=by
 unfold Fc at h;rw[Bool.and_eq_true,Bool.and_eq_true]at h;have:=h.2.2;unfold Er at this;rw[Bool.and_eq_true]at this;exact of_decide_eq_true this.1
def cvS(keys:List Nm)(l:List VS):List VS:=B8 (vfS keys l)
theorem IM(keys:List Nm)(l:List VS):CU (cvS keys l):=(DE _).asc
theorem F3{keys:List Nm}{l:List VS}{x:VS}(h:x∈cvS keys l):x∈l/\Fc keys x.1 x.2=true:=List.mem_filter.1 ((DE _).sub x h)
theorem MT{keys:List Nm}{l:List VS}:∀x∈cvS keys l,Ab x.1:=fun _ h=>QL (F3 h).2
theorem RK{keys:List Nm}{l:List VS}{x:VS}(h:x∈l)(hv:Fc keys x.1 x.2=true):∃y∈cvS keys l,y.1=x.1:=by
 obtain⟨y,hy,e,_⟩:=(DE (vfS keys l)).dom x (List.mem_filter.2 ⟨h,hv⟩);exact⟨y,hy,e⟩
def I1(keys:List Nm)(l:List VS)(s:Nat):Prop:=∃x∈l,∃y∈l,x.1.signer=(s:Int)/\CN x.1 y.1/\Fc keys x.1 x.2=true/\Fc keys y.1 y.2=true
theorem LV(keys:List Nm)(l:List VS)(s:Nat):(DR s (cvS keys l)).isSome=true↔I1 keys l s:=by
 rw[QK (IM keys l) MT];constructor
 ·rintro⟨x,hx,y,hy,h3,h4⟩;exact⟨x,(F3 hx).1,y,(F3 hy).1,h3,h4,(F3 hx).2,(F3 hy).2⟩
 ·rintro⟨x,hx,y,hy,h3,h4,h5,h6⟩;obtain⟨x',hx',e1⟩:=RK hx h5;obtain⟨y',hy',e2⟩:=RK hy h6;exact⟨x',hx',y',hy',by rw[e1];exact h3,by rw[e1,e2];exact h4⟩
theorem I1.lt{keys:List Nm}{l:List VS}{s:Nat}(h:I1 keys l s):s<10:=by
 obtain⟨x,hx,y,hy,h1,h2,_⟩:=h;have:=h2.2.2.1.2.1;omega
def Hh:List ES->Nat
 |[]=>0
 |e::r=>2^e.1.1.signer.toNat|||Hh r
theorem MU(i:Nat):∀l:List ES,(Hh l).testBit i=true↔∃e∈l,e.1.1.signer.toNat=i
 |[]=>by simp[Hh]
 |e::r=>by
  rw[Hh,Nat.testBit_or,Bool.or_eq_true,MU i r,Nat.testBit_two_pow];simp
def GT(keys:List Nm)(l:List VS):Nat:=Hh (CY (cvS keys l) 10)
theorem JW{c:List VS}{k:Nat}{e:ES}:e∈CY c k↔∃s,s<k/\DR s c=some e:=by
 unfold CY;rw[List.mem_filterMap];constructor
 ·rintro⟨s,h1,h2⟩;exact⟨s,List.mem_range.1 h1,h2⟩
 ·rintro⟨s,h1,h2⟩;exact⟨s,List.mem_range.2 h1,h2⟩
theorem LW(keys:List Nm)(l:List VS)(i:Nat):(GT keys l).testBit i=true↔I1 keys l i:=by
 unfold GT;rw[MU];constructor
 ·rintro⟨e,he,hi⟩;obtain⟨s,hs,hf⟩:=JW.1 he;obtain⟨_,_,h3,_⟩:=C9 hf;have:s=i:=by omega
  subst this;exact(LV keys l s).1 (by rw[hf];rfl)
 ·intro h;obtain⟨e,he⟩:=Option.isSome_iff_exists.1 ((LV keys l i).2 h);obtain⟨_,_,h3,_⟩:=C9 he;exact⟨e,JW.2 ⟨i,h.lt,he⟩,by omega⟩
theorem RL(keys:List Nm)(l:List VS):GT keys l<1024:=by
 refine Nat.lt_of_not_le fun h=>?_
 have:∃i,10<=i/\(GT keys l).testBit i=true:=Nat.exists_ge_and_testBit_of_ge_two_pow (n:=10) h;obtain⟨i,hi,hb⟩:=this;have:=((LW keys l i).1 hb).lt;omega
theorem SY(c:List VS)(k:Nat):(CY c k).Pairwise fun e f=>e.1.1.signer<f.1.1.signer:=by
 unfold CY;rw[List.pairwise_filterMap];refine(List.pairwise_lt_range (n:=k)).imp ?_;intro a b hab e he f hf;have h1:=(C9 he).2.2.1;have h2:=(C9 hf).2.2.1;omega
section
open Go.RowKit
theorem DX(x n:Nat):Aw x (n+1)=Aw x n+(x.testBit n).toNat:=by
 rw[Nat.toNat_testBit];rfl
theorem Oo(a b:Nat):∀n,Aw (a&&& b) n+Aw (a|||b) n=Aw a n+Aw b n
 |0=>rfl
 |n+1=>by
  have h:=Oo a b n;rw[DX,DX,DX,DX,Nat.testBit_and,Nat.testBit_or];cases a.testBit n <;> cases b.testBit n <;> simp <;> omega
theorem EW{a b:Nat}(h:∀i,i<10->a.testBit i=true->b.testBit i=true):∀n,n<=10->Aw a n<=Aw b n
 |0,_=>AB _
 |n+1,hn=>by
  have h1:=EW h n (by omega);have h2:=h n (by omega);rw[DX,DX];cases ha:a.testBit n with
  |false=>simp;omega
  |true=>rw[h2 ha];omega
theorem I2{a:Nat}:∀n,0<Aw a n->∃i,i<n/\a.testBit i=true
 |0,h=>by simp[Aw]at h
 |n+1,h=>by
  cases ha:a.testBit n with
  |true=>exact⟨n,by omega,ha⟩
  |false=>
   rw[DX,ha]at h;obtain⟨i,h1,h2⟩:=I2 n (by simpa using h);exact⟨i,by omega,h2⟩
def CH(n:Nat):Nat:=n-(n-1)/3
def LX(n:Nat):Nat:=if n<1 then 0 else(n-1)/3+1
def InN(s x:Nat):Prop:=∀i,i<10->s.testBit i=true->x.testBit i=true
theorem Up{x s t:Nat}(hs:InN s x)(ht:InN t x)(h1:CH (Aw x 10)<=Aw s 10)(h2:CH (Aw x 10)<=Aw t 10)(hx:0<Aw x 10):LX (Aw x 10)<=Aw (s&&& t) 10:=by
 have h3:=Oo s t 10;have h4:Aw (s|||t) 10<=Aw x 10:=EW (fun i hi h=>by
  rw[Nat.testBit_or,Bool.or_eq_true]at h;rcases h with h|h
  ·exact hs i hi h
  ·exact ht i hi h) 10 (AB _)
 unfold CH at h1 h2;unfold LX;rw[if_neg (by omega)];omega
theorem KK{x:Nat}(hx:0<Aw x 10):0<CH (Aw x 10):=by unfold CH;omega
def MV(a b:Vt):Prop:=a.choice=b.choice/\a.value=b.value
instance (a b:Vt):Decidable (MV a b):=by unfold MV;infer_instance
structure QM (x:Nat)(p:Nm)(s:Int)(l O:List Vt):Prop where
 mem:∀v∈O,v∈l
 ok:∀v∈O,Ab v/\v.parent=p/\v.slot=s
 prev:∀v∈O,v.kind=3->2<=v.round->(∃S,InN S x/\CH (Aw x 10)<=Aw S 10/\∀i,i<10->S.testBit i=true->∃w∈O,w.signer=(i:Int)/\w.kind=4/\w.round=v.round-1/\(MV v w∨w.choice=2))/\
  ∃w∈O,w.round=v.round-1/\MV v w/\(w.kind=4∨w.kind=3)
 prec:∀v∈O,v.kind=4->v.choice≠2->∃w∈O,w.kind=3/\w.round=v.round/\MV v w
structure NC (x:Nat)(O:List Vt)(r c:Int)(val:Nm):Prop where
 ne:c≠2
 quo:∃S,InN S x/\CH (Aw x 10)<=Aw S 10/\∀i,i<10->S.testBit i=true->∃w∈O,w.signer=(i:Int)/\w.kind=4/\w.round=r/\w.choice=c/\w.value=val
def I3(x:Nat)(L:List Vt):Prop:=∃T,InN T x/\LX (Aw x 10)<=Aw T 10/\∀i,i<10->T.testBit i=true->∃a∈L,∃b∈L,a.signer=(i:Int)/\CN a b
theorem I3.mono{x:Nat}{L L':List Vt}(h:I3 x L)(hl:∀v∈L,v∈L'):I3 x L':=by
 obtain⟨T,h1,h2,h3⟩:=h;refine⟨T,h1,h2,fun i hi ht=>?_⟩;obtain⟨a,ha,b,hb,h⟩:=h3 i hi ht;exact⟨a,hl a ha,b,hl b hb,h⟩
theorem Oq{x:Nat}{L:List Vt}{S S':Nat}(hS:InN S x)(hS':InN S' x)(h1:CH (Aw x 10)<=Aw S 10)(h2:CH (Aw x 10)<=Aw S' 10)(hx:0<Aw x 10)(h:∀i,i<10->S.testBit i=true->S'.testBit i=true->∃a∈L,∃b∈L,a.signer=(i:Int)/\CN a b):I3 x L:=
 ⟨S&&& S',fun i hi ht=>by rw[Nat.testBit_and,Bool.and_eq_true]at ht;exact hS i hi ht.1,Up hS hS' h1 h2 hx,fun i hi ht=>by
  rw[Nat.testBit_and,Bool.and_eq_true]at ht;exact h i hi ht.1 ht.2⟩
theorem Lt{x:Nat}{p:Nm}{s:Int}{l1 l2 O1 O2:List Vt}(h1:QM x p s l1 O1)(h2:QM x p s l2 O2)(hx:0<Aw x 10){r c:Int}{val:Nm}(ho:NC x O1 r c val)(hr:1<=r):∀(d:Nat) (v:Vt),v∈O2->v.kind=3->v.round=r+1+(d:Int)->(v.choice≠c∨v.value≠val)->I3 x (l1++l2):=by
 intro d
 induction d with
 |zero=>
  intro v hv hk hrd hne;obtain⟨⟨S,hS,hq,hw⟩,_⟩:=h2.prev v hv hk (by omega);obtain⟨S',hS',hq',hw'⟩:=ho.quo;refine Oq hS hS' hq hq' hx fun i hi ht ht'=>?_
  obtain⟨a,ha,a1,a2,a3,a4⟩:=hw i hi ht;obtain⟨b,hb,b1,b2,b3,b4,b5⟩:=hw' i hi ht';obtain⟨va,pa,sa⟩:=h2.ok a ha;obtain⟨vb,pb,sb⟩:=h1.ok b hb;have hne2:=ho.ne;refine⟨a,Bc _ (h2.mem a ha),b,BW _ (h1.mem b hb),a1,fun e=>?_,⟨by omega,by rw[pa,pb],by rw[sa,sb],by omega,by omega⟩,va,vb⟩;subst e;rcases a4 with⟨e1,e2⟩|e
  ·rcases hne with h|h
   ·exact h (by omega)
   ·exact h (by rw[e2,b5])
  ·omega
 |succ d ih=>
  intro v hv hk hrd hne;obtain⟨_,w,hw,w1,⟨w2,w3⟩,w4⟩:=h2.prev v hv hk (by omega);rcases w4 with w4|w4
  ·obtain⟨vv,_,_⟩:=h2.ok v hv;have hc:=(vv.2.2.2.2.2.1 hk).2.2.1;obtain⟨u,hu,u1,u2,u3,u4⟩:=h2.prec w hw w4 (by omega);refine ih u hu u1 (by push_cast at hrd ⊢;omega) ?_;rcases hne with h|h
   ·exact .inl (by omega)
   ·exact .inr (by rw[<-u4,<-w3];exact h)
  ·refine ih w hw w4 (by push_cast at hrd ⊢;omega) ?_;rcases hne with h|h
   ·exact .inl (by omega)
   ·exact .inr (by rw[<-w3];exact h)
theorem GU{x:Nat}{O:List Vt}{r c:Int}{val:Nm}(ho:NC x O r c val)(hx:0<Aw x 10):∃w∈O,w.kind=4/\w.round=r/\w.choice=c/\w.value=val:=by
 obtain⟨S,_,hq,hw⟩:=ho.quo;obtain⟨i,hi,ht⟩:=I2 10 (Nat.lt_of_lt_of_le (KK hx) hq);obtain⟨w,hw,_,r⟩:=hw i hi ht;exact⟨w,hw,r⟩
theorem LY{x:Nat}{p:Nm}{s:Int}{l1 l2 O1 O2:List Vt}(h1:QM x p s l1 O1)(h2:QM x p s l2 O2)(hx:0<Aw x 10){r r' c c':Int}{val val':Nm}(ho:NC x O1 r c val)(ho':NC x O2 r' c' val')(hr:1<=r)(hlt:r<r')(hne:val≠val'):I3 x (l1++l2):=by
 obtain⟨w,hw,w1,w2,w3,w4⟩:=GU ho' hx;obtain⟨u,hu,u1,u2,u3,u4⟩:=h2.prec w hw w1 (by rw[w3];exact ho'.ne);refine Lt h1 h2 hx ho hr (u.round-(r+1)).toNat u hu u1 (by omega) (.inr ?_);rw[<-u4,w4];exact fun e=>hne e.symm
theorem ND{x:Nat}{p:Nm}{s:Int}{l1 l2 O1 O2:List Vt}(h1:QM x p s l1 O1)(h2:QM x p s l2 O2)(hx:0<Aw x 10){r r' c c':Int}{val val':Nm}(ho:NC x O1 r c val)(ho':NC x O2 r' c' val')(hne:val≠val'):I3 x (l1++l2):=by
 obtain⟨w,hw,w1,w2,_,_⟩:=GU ho hx;obtain⟨u,hu,u1,u2,_,_⟩:=GU ho' hx;have k1:=((h1.ok w hw).1.2.2.2.2.2.2.1 w1).2.1.1;have k2:=((h2.ok u hu).1.2.2.2.2.2.2.1 u1).2.1.1;by_cases e:r=r'
 ·obtain⟨S,hS,hq,hw⟩:=ho.quo;obtain⟨S',hS',hq',hw'⟩:=ho'.quo;refine Oq hS hS' hq hq' hx fun i hi ht ht'=>?_
  obtain⟨a,ha,a1,a2,a3,a4,a5⟩:=hw i hi ht;obtain⟨b,hb,b1,b2,b3,b4,b5⟩:=hw' i hi ht';obtain⟨va,pa,sa⟩:=h1.ok a ha;obtain⟨vb,pb,sb⟩:=h2.ok b hb;refine⟨a,BW _ (h1.mem a ha),b,Bc _ (h2.mem b hb),a1,fun e=>?_,⟨by omega,by rw[pa,pb],by rw[sa,sb],by omega,by omega⟩,va,vb⟩;subst e;exact hne (by rw[<-a5,<-b5])
 ·by_cases h:r<r'
  ·exact LY h1 h2 hx ho ho' (by omega) h hne
  ·exact(LY h2 h1 hx ho' ho (by omega) (by omega) (fun e=>hne e.symm)).mono fun v hv=>by
    rcases AP.1 hv with h|h
    ·exact Bc _ h
    ·exact BW _ h
theorem NG{keys:List Nm}{L:List VS}{x g:Nat}{l:List Vt}(h:I3 x l)(hl:∀v∈l,∃y∈L,y.1=v/\Fc keys y.1 y.2=true)(hg:∀i,i<10->x.testBit i=true->I1 keys L i->g.testBit i=true):LX (Aw x 10)<=Aw g 10:=by
 obtain⟨T,h1,h2,h3⟩:=h;refine AG h2 (EW (fun i hi ht=>?_) 10 (AB _));obtain⟨a,ha,b,hb,hs,hc⟩:=h3 i hi ht;obtain⟨y,hy,e1,e2⟩:=hl a ha;obtain⟨z,hz,f1,f2⟩:=hl b hb;exact hg i hi (h1 i hi ht) ⟨y,hy,z,hz,by rw[e1];exact hs,by rw[e1,f1];exact hc,e2,f2⟩
def xOf(M:Int):Nat:=(M%1024).toNat
theorem QN(M:Int):xOf M<1024:=by unfold xOf;omega
theorem EO(x:Nat)(hx:x<1024):xOf (x:Int)=x:=by unfold xOf;omega
theorem X1(y:BitVec 64):(y&&& BitVec.ofInt 64 1023).toNat=y.toNat%1024:=by
 rw[BitVec.toNat_and];show y.toNat&&& (2^10-1)=_;rw[Nat.and_two_pow_sub_one_eq_mod]
theorem X2(y:BitVec 64):(y&&& BitVec.ofInt 64 1).toNat=y.toNat%2:=by
 rw[BitVec.toNat_and];show y.toNat&&& (2^1-1)=_;rw[Nat.and_two_pow_sub_one_eq_mod]
theorem Uq(M:Int):bits .and .i64 M 1023=(xOf M:Int):=by
 show IntKind.i64.wrap ((BitVec.ofInt 64 M&&& BitVec.ofInt 64 1023).toNat:Int)=_;rw[X1,BitVec.toNat_ofInt,IntKind.wrap_i64];unfold xOf;omega
theorem Wv(M:Int):bits .and .i64 M 1=M%2:=by
 show IntKind.i64.wrap ((BitVec.ofInt 64 M&&& BitVec.ofInt 64 1).toNat:Int)=_;rw[X2,BitVec.toNat_ofInt,IntKind.wrap_i64];omega
theorem Wg(M:Int)(i:Nat)(hi:i<10):(M/((2^i:Nat):Int)%2==1)=(xOf M).testBit i:=by
 rw[Nat.testBit_eq_decide_div_mod_eq];unfold xOf;rw[Bool.eq_iff_iff,beq_iff_eq,decide_eq_true_eq];rcases(by omega:i=0∨i=1∨i=2∨i=3∨i=4∨i=5∨i=6∨i=7∨i=8∨i=9)with rfl|rfl|rfl|rfl|rfl|rfl|rfl|rfl|rfl|rfl <;> simp <;> omega
theorem Ff(M:Int)(i:Nat)(hi:i<10)(w:World):Calls prog 19 #[.int .i64 M,.int .i64 (i:Int)] w fun e w'=>e= .returned (.bool ((xOf M).testBit i))/\w'=w:=by
 have ha:=Wv (M/((2^i:Nat):Int));have hb:=Wg M i hi;rw[<-ha]at hb;clear ha;generalize (xOf M).testBit i=r at*;rcases(by omega:i=0∨i=1∨i=2∨i=3∨i=4∨i=5∨i=6∨i=7∨i=8∨i=9)with rfl|rfl|rfl|rfl|rfl|rfl|rfl|rfl|rfl|rfl
 all_goals
  simp at hb;go_enter func19,ntmps19;go_wp2;go_ret;exact⟨rfl,rfl⟩
theorem Ct(M:Int)(w:World):Calls prog 15 #[.int .i64 M] w fun e w'=>e= .returned (.int .i64 ((Aw (xOf M) 10:Nat):Int))/\w'=w:=by
 have H:=AA (fun W=>Ul (xOf M) W (QN M));have hw:=Jr (xOf M) (QN M);have ha:=Uq M;generalize Aw (xOf M) 10=r at*;generalize xOf M=x at*;go_enter func15,ntmps15;go_wp2_with (go_at_call 38;refine(H.out _).mono ?_;rintro en w2 ⟨rfl,hw2⟩;replace hw2:=hw2.symm;subst hw2)
 go_ret;exact⟨rfl,rfl⟩
theorem F4(n:Nat)(hn:n<=10)(w:World):Calls prog 115 #[.int .i64 (n:Int)] w fun e w'=>e= .returned (.int .i64 ((CH n:Nat):Int))/\w'=w:=by
 rcases(by omega:n=0∨n=1∨n=2∨n=3∨n=4∨n=5∨n=6∨n=7∨n=8∨n=9∨n=10)with rfl|rfl|rfl|rfl|rfl|rfl|rfl|rfl|rfl|rfl|rfl
 all_goals
  go_enter func115,ntmps115;go_wp2;go_ret;exact⟨rfl,rfl⟩
theorem SZ(n:Nat)(hn:n<=10)(w:World):Calls prog 37 #[.int .i64 (n:Int)] w fun e w'=>e= .returned (.int .i64 ((LX n:Nat):Int))/\w'=w:=by
 rcases(by omega:n=0∨n=1∨n=2∨n=3∨n=4∨n=5∨n=6∨n=7∨n=8∨n=9∨n=10)with rfl|rfl|rfl|rfl|rfl|rfl|rfl|rfl|rfl|rfl|rfl
 all_goals
  go_enter func37,ntmps37;go_wp2;go_ret;exact⟨rfl,rfl⟩
end
section
open Go.RowKit Go.Shelf
attribute [local go_sem] Oper.semAt_some
def CV(s n:Nat):List Nat:=(List.range n).filter fun i=>s.testBit i
theorem I4{s n:Nat}(h:s.testBit n=true):CV s (n+1)=CV s n++[n]:=by simp[CV,List.range_succ,List.filter_append,h]
theorem Fg{s n:Nat}(h:s.testBit n=false):CV s (n+1)=CV s n:=by simp[CV,List.range_succ,List.filter_append,h]
theorem GV(s n:Nat):(CV s n).length<=n:=by
 have:=List.length_filter_le (fun i=>s.testBit i) (List.range n);rwa[List.length_range]at this
theorem I5{s n i:Nat}:i∈CV s n↔i<n/\s.testBit i=true:=by simp[CV]
def FL(n₀ B:Nat)(V W:World):Prop:=Below n₀ V W/\W.heap[B]? =V.heap[B]?
theorem Ot{n₀ B:Nat}{U V W:World}(h:FL n₀ B U V)(k:FL n₀ B V W):FL n₀ B U W:=⟨h.1.trans k.1,k.2.trans h.2⟩
theorem Ur(n:Nat)(hn:1<=n)(l Bn n₀:Nat)(M:Int)(J Jx:List Nat->World->Prop)(hY:∀(pre:List Nat) (x:Nat) (W:World),J pre W->pre.length<10->YieldAt Fence.wide (n-1) prog l #[.int .i64 (x:Int)] W fun e W'=>(e= .returned (.bool true)/\J (pre++[x]) W'/\FL n₀ Bn W W')∨(e= .returned (.bool false)/\Jx (pre++[x]) W'))(W:World)(hB:Boxed W Bn 22 (.int .i64 M))(h0:J [] W):CallsIn Fence.wide n prog 128 #[.func (.yield l) #[] #[],.pointer (some ⟨Bn,0,none⟩)] W fun e W'=>(∃v,e= .returned v)/\((∃ys,ys=CV (xOf M) 10/\J ys W')∨(∃pre,True/\Jx pre W')):=by
 have HH:=AA (fun i (hi:i<10) W=>Ff M i hi W);refine callsIn_of_wp func128 rfl trivial ?_ rfl;simp only[ntmps128,List.size_toArray,Ah,List.length_nil,Nat.reduceAdd,Nat.reduceSub,Array.replicate_succ,Array.replicate_zero,List.push_toArray,List.append_toArray,List.nil_append,List.cons_append]
 gi_wp2
 gi_loopw [4] (fun iv wr=>∃i:Nat,iv= .int .i64 (i:Int)/\i<=10/\Boxed wr Bn 22 (.int .i64 M)/\J (CV (xOf M) i) wr) (fun iv _=>10-(intOf iv).toNat)
 case atStart=>exact⟨0,rfl,by omega,hB,h0⟩
 case round=>
  obtain⟨i,rfl,hin,hBh,hJ⟩:=hrel;have xH:=hBh.cell;by_cases hi:i<10
  ·have di:decide ((i:Int)<10)=true:=by simp;omega
   have H:=AA (HH.out i hi);cases hb:(xOf M).testBit i with
   |true=>
    rw[hb]at H;have zm:=I4 hb;obtain⟨fn,tmps,assign,body,hy,hR⟩:=hY _ i wr hJ (by have:=GV (xOf M) i;omega)
    gi_wp2_with (refine⟨trivial,?_⟩;gi_at_call 19;refine(callsIn_wide.2 (H.out _)).mono ?_;rintro en w2 ⟨rfl,hw2⟩;replace hw2:=hw2.symm;subst hw2)
    refine hR.mono ?_;rintro e W3 (⟨rfl,hJ3,hk3⟩|⟨rfl,hx3⟩)
    ·have hC7:Boxed W3 Bn 22 (.int .i64 M):=hk3.2.trans hBh
     gi_wp2
     go_roundw
     case rel=>exact⟨i+1,by go_num,by omega,hC7,by rw[zm];exact hJ3⟩
     case measure=>simp[intOf];omega
    ·gi_wp2
     refine bodyPost_ret (results_none rfl _ _ _) rfl ?_;exact⟨⟨_,rfl⟩,.inr ⟨_,trivial,hx3⟩⟩
   |false=>
    rw[hb]at H;have zm:=Fg hb
    gi_wp2_with (refine⟨trivial,?_⟩;gi_at_call 19;refine(callsIn_wide.2 (H.out _)).mono ?_;rintro en w2 ⟨rfl,hw2⟩;replace hw2:=hw2.symm;subst hw2)
    refine⟨fun _ h=>(by cases h),?_⟩
    gi_wp2
    go_roundw
    case rel=>exact⟨i+1,by go_num,by omega,hBh,by rw[zm];exact hJ⟩
    case measure=>simp[intOf];omega
  ·have di:decide ((i:Int)<10)=false:=by simp;omega
   have hAl:i=10:=by omega
   subst hAl
   gi_wp2
   go_end0;exact⟨⟨_,rfl⟩,.inl ⟨_,rfl,hJ⟩⟩
theorem Sa(n:Nat)(hn:1<=n)(Bn n₀:Nat)(M:Int)(w:World)(hBn:Boxed w Bn 22 (.int .i64 M)):SeqStopsK Fence.wide n prog 128 #[.pointer (some ⟨Bn,0,none⟩)] (fun x:Nat=>#[Value.int .i64 (x:Int)]) (FL n₀ Bn) (fun ys=>ys=CV (xOf M) 10) (fun _=>True) 10 w:=fun l J Jx W hW _ _ hY h0=>
 Ur n hn l Bn n₀ M J Jx hY W ((hW.block Bn hBn.lt).trans hBn) h0
theorem RM(M:Int)(w:World):Calls prog 86 #[.int .i64 M] w fun e w'=>e= .returned (.func (.func 128) #[] #[.pointer (some ⟨w.heap.size,0,none⟩)])/\w'=w.alloc (.cells #[.int .i64 M] 22):=by
 go_enter func86,ntmps86;go_wp2;go_ret;exact⟨rfl,rfl⟩
theorem Sb:(prog.info? 3).map (fun i=>(i.zero,i.size,i.bytes))=some (some (.int .i64 0),1,8):=by kernel_rfl
theorem RN(M:Int)(w:World):Calls prog 52 #[.int .i64 M] w fun e w'=>∃v,e= .returned v/\w'.ownsRow w.heap.size 3 1 v (CV (xOf M) 10).length ((CV (xOf M) 10).map fun i:Nat=>Value.int .i64 (i:Int))/\ZN w w':=by
 obtain⟨i0,hi,hz0,hz1,hz2⟩:=info_parts Sb;have hBd:=AA (fun W=>RM M W);refine(callsIn_wide (n:=3)).1 ?_;refine callsIn_of_wp_marks func52 rfl trivial ?_ rfl;simp only[ntmps52,List.size_toArray,Ah,List.length_nil,Nat.reduceAdd,Nat.reduceSub,Array.replicate_succ,Array.replicate_zero,List.push_toArray,List.append_toArray,List.nil_append,List.cons_append]
 gi_wp2_with (refine⟨trivial,?_⟩;gi_at_call 86;refine(callsIn_wide.2 (hBd.out _)).mono ?_;rintro e w' ⟨rfl,rfl⟩)
 have bO:=Boxed.new w 114 (.slice none 0 0);have bN:=Boxed.new (w.alloc (.cells #[.slice none 0 0] 114)) 22 (.int .i64 M);rw[World.size_alloc]at bN;have hB0:ZN w ((w.alloc (.cells #[.slice none 0 0] 114)).alloc (.cells #[.int .i64 M] 22)):=((AC _ w).alloc (AB _) _).alloc (by simp) _;refine wpIn_rangeFunc_ownG rfl (by omega) (gf:=128) (lb:=#[.pointer (some ⟨w.heap.size+1,0,none⟩)]) rfl trivial (enters_of func128 (by kernel_rfl) rfl)
  (Sa (3-1) (by omega) (w.heap.size+1) w.heap.size M _ bN) (Kp:=FL w.heap.size (w.heap.size+1)) Ot (fun W l o o' hl hlo hc hwk=>⟨belowK_b (w:=(w.alloc (.cells #[.slice none 0 0] 114)).alloc (.cells #[.int .i64 M] 22)) (by simp;omega) W l o o' hl hlo hc hwk,(grownBy_putObj' W l o').block _ (by have:=(Aa.1 hlo).1;simp at hl;omega) (fun e=>by cases e;rw[World.size_alloc,World.size_alloc]at hl;omega)⟩) (AC _ _) (by intro x;rfl)
  (fun pre W=>((∃v,Boxed W w.heap.size 114 v/\W.ownsRow w.heap.size 3 1 v pre.length (pre.map fun i:Nat=>Value.int .i64 (i:Int))/\True)/\Boxed W (w.heap.size+1) 22 (.int .i64 M))/\ZN w W)
  (fun _ _ _=>False)
  (OwnFrom.and (OwnFrom.and (Own.from (holdsRow_own w.heap.size w.heap.size 114 3 1 (fun pre:List Nat=>pre.length) (fun pre=>pre.map fun i:Nat=>Value.int .i64 (i:Int)) (fun _ _=>True)) _) (Own.from (boxed_own (w.heap.size+1) 22 (fun _=>.int .i64 M)) _)) (ownFrom_below (AB _) (by simp;omega)))
  (fun _ _ _ _ _ hs _ _=>hs)
  ⟨⟨⟨_,bO.alloc _,World.ownsRow_nil _ _ _ _,trivial⟩,bN⟩,hB0⟩
  (fun x=>{tmps:=#[.int .i64 M,undef,.slice none 0 0,.pointer (some ⟨w.heap.size,0,none⟩),.int .i64 (x:Int),.int .i64 M,.func (.func 128) #[] #[.pointer (some ⟨w.heap.size+1,0,none⟩)],.int .i64 (x:Int),undef,undef,undef,undef,undef],defers:=[]}) ?assign ?body ?done ?stop
 case assign=>
  intro l x W K hK
  gi_wp2
  exact hK
 case body=>
  rintro l pre x W ⟨⟨⟨v,hv,xV,_⟩,hm⟩,hB⟩ hlt;have hc:=hv.cell
  gi_wp2_with (gi_at_builtin;refine wpListIn_append_own _ rfl _ _ 114 rfl w.heap.size 3 i0 (.int .i64 0) 1 8 underlying114 hi hz0 hz1 hz2 rfl (by decide) _ _ _ rfl (xV.alloc _) ⟨W.heap.size,0,none⟩ 1 1 [.int .i64 (x:Int)] rfl rfl (cell_one_new _ _ _) (by simp[Value.oneCell']) (by unfold maxLen;omega) (by omega) (by have:=hB.size;simp;omega) ?_;intro v' w1 hCR hEm _;obtain⟨g',cap',rfl⟩:=ownsRow_succ hCR;obtain⟨hv1,hv2,hr2,hk2,hb2⟩:=hv.appended (by decide) xV hB.size (AB _) hCR hEm;have hc1:=hv1.cell;have hf1:=hv1.frozen)
  have hm1:Boxed w1 (w.heap.size+1) 22 (.int .i64 M):=(hm.alloc _).kept hEm (hm.not_row (by decide) xV);have hm2:=hm1.other (B':=w.heap.size) (by omega) (.slice (some ⟨g',0,none⟩) (pre.length+1) cap');exact⟨hk2.from _,⟨hb2,hm2.trans hm.symm⟩,⟨⟨_,hv2,by simpa using hr2,trivial⟩,hm2⟩,hB.trans hb2⟩
 case done=>
  rintro D ys W hD rfl ⟨⟨⟨v,hv,xV,_⟩,hm⟩,hB⟩ hK;have hc:=hv.cell
  gi_wp2
  refine⟨by simp,.inl ⟨_,_,rfl,run_takeDeferred hK,?_⟩⟩;exact⟨_,results_tmp rfl _ _ _,v,rfl,ownsRow_putObj xV _ hK rfl,hB.trans (belowK_b (w:=w) (AB _) W D _ _ (by simp at hD;omega) hK rfl rfl)⟩
 case stop=>
  rintro D c pre W _ _ h _;exact h.elim
end

def Bx(pr:Vt->Bool)(l:List Vt):Nat:=l.foldl (fun m v=>if pr v=true then m|||2^v.signer.toNat else m) 0
theorem Gs(pr:Vt->Bool)(l:List Vt)(v:Vt):Bx pr (l++[v])=if pr v=true then Bx pr l|||2^v.signer.toNat else Bx pr l:=by
 simp[Bx,List.foldl_append]
theorem Us(pr:Vt->Bool):∀(l:List Vt) (m:Nat),m<1024->(∀v∈l,0<=v.signer/\v.signer<=9)->l.foldl (fun m v=>if pr v=true then m|||2^v.signer.toNat else m) m<1024
 |[],m,hm,_=>hm
 |v::r,m,hm,h=>by
  rw[List.foldl_cons];refine Us pr r _ ?_ (fun u hu=>h u (List.mem_cons_of_mem _ hu));have hv:=h v BF;split
  ·exact Gq m _ hm (by omega)
  ·exact hm
theorem Gt{pr:Vt->Bool}{l:List Vt}(h:∀v∈l,0<=v.signer/\v.signer<=9):Bx pr l<1024:=Us pr l 0 (by decide) h
theorem RO(pr:Vt->Bool)(i:Nat):∀(l:List Vt) (m:Nat),(l.foldl (fun m v=>if pr v=true then m|||2^v.signer.toNat else m) m).testBit i=true↔m.testBit i=true∨∃v∈l,pr v=true/\v.signer.toNat=i
 |[],m=>by simp
 |v::r,m=>by
  rw[List.foldl_cons,RO pr i r];by_cases hp:pr v=true
  ·rw[if_pos hp,Nat.testBit_or,Bool.or_eq_true,Nat.testBit_two_pow,decide_eq_true_eq,or_assoc];refine or_congr Iff.rfl ⟨?_,?_⟩
   ·rintro(h|⟨u,hu,h⟩)
    ·exact⟨v,BF,hp,h⟩
    ·exact⟨u,List.mem_cons_of_mem _ hu,h⟩
   ·rintro⟨u,hu,h⟩;rcases List.mem_cons.1 hu with rfl|hu
    ·exact .inl h.2
    ·exact .inr ⟨u,hu,h⟩
  ·rw[if_neg hp];simp[hp]
theorem Ou{pr:Vt->Bool}{l:List Vt}{i:Nat}:(Bx pr l).testBit i=true↔∃v∈l,pr v=true/\v.signer.toNat=i:=by
 unfold Bx;rw[RO pr i l 0];simp
def J7(l:List Nat):Nat:=l.foldl (fun m i=>m|||2^i) 0
theorem Ut:∀(l:List Nat) (m:Nat),m<1024->(∀i∈l,i<=9)->l.foldl (fun m i=>m|||2^i) m<1024
 |[],m,hm,_=>hm
 |j::r,m,hm,h=>by
  rw[List.foldl_cons];exact Ut r _ (Gq m _ hm (h j BF)) (fun u hu=>h u (List.mem_cons_of_mem _ hu))
theorem RP{l:List Nat}(h:∀i∈l,i<=9):J7 l<1024:=Ut l 0 (by decide) h
def IN(S k:Nat):Nat:=J7 ((CV S 10).take k)
theorem RQ(S k:Nat):IN S k<1024:=RP (fun i hi=>by have:=(I5.1 (List.mem_of_mem_take hi)).1;omega)
end Go.Proofs.YtadllffeoibelaaGreat
