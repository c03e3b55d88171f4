/-
  Parts of the proof. No condition.
-/
import Derived.Test.YtadllffeoibelaaGreatS5
import Derived.RangeFuncNested
import Derived.RangeFuncBox
import Derived.RangeFuncLeaves
import Derived.OwnWalkIn
import Derived.Shelf.Abstract
import Derived.TacticsInMore
import Derived.LoopNIn
import Derived.LoopIn
open Go.Proofs.Tryz
namespace Go.Proofs.YtadllffeoibelaaGreat
set_option maxRecDepth 100000
set_option maxHeartbeats 32000000
set_option linter.all false
section
open Go.RowKit
theorem KH(a b:Nat)(ha:a<9223372036854775808)(hb:b<9223372036854775808):bits .or .i64 (a:Int) (b:Int)=((a|||b:Nat):Int):=by
 have hx:a|||b<2^63:=Nat.or_lt_two_pow (by omega) (by omega)
 show IntKind.i64.wrap ((BitVec.ofInt 64 (a:Int)|||BitVec.ofInt 64 (b:Int)).toNat:Int)=_;rw[BitVec.toNat_or,BitVec.ofInt_natCast,BitVec.ofInt_natCast,BitVec.toNat_ofNat,BitVec.toNat_ofNat,Nat.mod_eq_of_lt (by omega),Nat.mod_eq_of_lt (by omega),IntKind.wrap_i64];omega
theorem JL(m s:Nat)(hm:m<1024)(hs:s<=9):m|||2^s<1024:=
 Nat.or_lt_two_pow (n:=10) hm (Nat.pow_lt_pow_right (by omega) (by omega))
theorem Va(m s:Nat)(hm:m<1024)(hs:s<=9):Value.int .i64 (bits .or .i64 (m:Int) (wrap64 (2^s)))= .int .i64 ((m|||2^s:Nat):Int):=by
 have h2:2^s<1024:=Nat.pow_lt_pow_right (n:=10) (by omega) (by omega);have e:wrap64 ((2:Int)^s)=((2^s:Nat):Int):=by
  rw[IntWalk.wrap64_in _ ⟨?_,?_⟩]
  ·simp
  ·have:(0:Int)<=(2:Int)^s:=Int.le_of_lt (Int.pow_pos (by omega));omega
  ·have:((2^s:Nat):Int)=(2:Int)^s:=by simp
   omega
 rw[e,KH m (2^s) (by omega) (by omega)]
def Ae(x:Nat):Nat->Nat
 |0=>0
 |n+1=>Ae x n+(x/2^n)%2
def g1F(x:Nat):Nat:=(x/2&&& 6148914691236517205)+(x&&& 6148914691236517205)
def g2F(x:Nat):Nat:=(x/4&&& 3689348814741910323)+(x&&& 3689348814741910323)
def g3F(x:Nat):Nat:=(x/16+x)&&& 1085102592571150095
theorem FW:∀x:Fin 1024,IntKind.u64.wrap (bits .and .u64 ((x.val:Int)/2) 6148914691236517205+bits .and .u64 (x.val:Int) 6148914691236517205)=((g1F x.val:Nat):Int)/\g1F x.val<1024:=by decide+kernel
theorem Wm:∀x:Fin 1024,IntKind.u64.wrap (bits .and .u64 ((x.val:Int)/4) 3689348814741910323+bits .and .u64 (x.val:Int) 3689348814741910323)=((g2F x.val:Nat):Int)/\g2F x.val<1024:=by decide+kernel
theorem Wn:∀x:Fin 1024,bits .and .u64 (IntKind.u64.wrap ((x.val:Int)/16+(x.val:Int))) 1085102592571150095=((g3F x.val:Nat):Int):=by decide+kernel
theorem Wo:∀x:Fin 1024,IntKind.u64.wrap ((x.val:Int)+(x.val:Int)/256)=((x.val+x.val/256:Nat):Int):=by decide+kernel
theorem Wp:∀x:Fin 1024,IntKind.u64.wrap ((x.val:Int)+(x.val:Int)/65536)=(x.val:Int)/\IntKind.u64.wrap ((x.val:Int)+(x.val:Int)/4294967296)=(x.val:Int)/\IntKind.i64.wrap (x.val:Int)=(x.val:Int)/\bits .and .i64 (x.val:Int) 127=((x.val%128:Nat):Int):=by decide+kernel
theorem ON:∀x:Fin 1024,(g3F (g2F (g1F x.val))+g3F (g2F (g1F x.val))/256)%128=Ae x.val 10/\g3F (g2F (g1F x.val))<1024/\g3F (g2F (g1F x.val))+g3F (g2F (g1F x.val))/256<1024:=by decide+kernel
theorem OO(x:Nat)(w:World)(hx:x<1024):Calls prog 72 #[.int .u64 (x:Int)] w fun e w'=>e= .returned (.int .i64 ((Ae x 10:Nat):Int))/\w'=w:=by
 obtain⟨e1,l1⟩:=FW ⟨x,hx⟩;obtain⟨e2,l2⟩:=Wm ⟨_,l1⟩;have e3:=Wn ⟨_,l2⟩;obtain⟨e9,l3,l4⟩:=ON ⟨x,hx⟩;have e4:=Wo ⟨_,l3⟩;obtain⟨e5,e6,e7,e8⟩:=Wp ⟨_,l4⟩;simp only at e1 e2 e3 e4 e5 e6 e7 e8 e9;rw[e9]at e8;generalize g3F (g2F (g1F x))+g3F (g2F (g1F x))/256=x4 at*;generalize g3F (g2F (g1F x))=x3 at*;generalize g2F (g1F x)=x2 at*;generalize g1F x=x1 at*;generalize Ae x 10=r at*;clear l1 l2 l3 l4 e9;go_enter func72,ntmps72;go_wp2;go_ret;exact⟨rfl,rfl⟩
theorem I2(x:Nat)(hx:x<1024):IntKind.u64.wrap (x:Int)=(x:Int):=by rw[IntKind.wrap_u64];omega
theorem Se(x:Nat)(w:World)(hx:x<1024):Calls prog 38 #[.int .u64 (x:Int)] w fun e w'=>e= .returned (.int .i64 ((Ae x 10:Nat):Int))/\w'=w:=by
 have H:=AA (fun W=>OO x W hx);have hw:=I2 x hx;generalize Ae x 10=r at*;go_enter func38,ntmps38;go_wp2_with (go_at_call 72;refine(H.out _).mono ?_;rintro en w2 ⟨rfl,hw2⟩;replace hw2:=hw2.symm;subst hw2)
 go_ret;exact⟨rfl,rfl⟩
theorem Eh(x:Nat):∀i,Ae x i<=i
 |0=>AB _
 |i+1=>by have:=Eh x i;show Ae x i+(x/2^i)%2<=i+1;omega
end

abbrev VS:=Vt×List UInt8
abbrev Sg.vs(s:Sg):VS:=(s.vote,s.sig)
def Cn:List UInt8->List UInt8->Bool
 |[],_=>true
 |_::_,[]=>false
 |x::a,y::b=>if x=y then Cn a b else decide (x<y)
def IL:List VS->Bool
 |x::y::l=>Bf x.1 y.1&&IL (y::l)
 |_=>true
def Ck:List VS->List VS->List VS
 |[],b=>b
 |a,[]=>a
 |x::a,y::b=>
  if Bf x.1 y.1=true then x::Ck a (y::b)
  else if Bf y.1 x.1=true then y::Ck (x::a) b
  else if Cn x.2 y.2=true then Ck (x::a) b
  else Ck a (y::b)
termination_by a b=>a.length+b.length
theorem KI(a:List VS):Ck a []=a:=by cases a <;> simp[Ck]
theorem KJ(b:List VS):Ck [] b=b:=by simp[Ck]
theorem Gt:∀(n:Nat) (a b:List VS),a.length+b.length<=n->(Ck a b).length<=a.length+b.length
 |_,[],b,_=>by simp[Ck]
 |_,x::a,[],_=>by simp[Ck]
 |0,x::a,y::b,h=>by simp at h
 |n+1,x::a,y::b,h=>by
  have h1:=Gt n a (y::b) (by simp at h ⊢;omega);have h2:=Gt n (x::a) b (by simp at h ⊢;omega);simp only[Ag]at h1 h2 ⊢;rw[Ck];split
  ·simp only[Ag];omega
  ·split
   ·simp only[Ag];omega
   ·split <;> omega
def FX:Nat->List VS->List VS
 |0,l=>l
 |k+1,l=>if IL l=true then l else Ck (FX k (l.take (l.length/2))) (FX k (l.drop (l.length/2)))
theorem KK:∀(k:Nat) (l:List VS),(FX k l).length<=l.length
 |0,_=>AB _
 |k+1,l=>by
  rw[FX];split
  ·exact AB _
  ·have h1:=KK k (l.take (l.length/2));have h2:=KK k (l.drop (l.length/2));have h3:=Gt _ (FX k (l.take (l.length/2))) (FX k (l.drop (l.length/2))) (AB _);rw[AZ]at h1;rw[List.length_drop]at h2;omega
theorem ER(l:List VS)(h:l.length<=1):IL l=true:=by
 match l,h with
 |[],_=>rfl
 |[_],_=>rfl
theorem GW:∀(k j:Nat) (l:List VS),l.length<=k->l.length<=j->FX k l=FX j l
 |0,0,_,_,_=>rfl
 |0,j+1,l,h,_=>by rw[FX,FX,if_pos (ER l (by omega))]
 |k+1,0,l,_,h=>by rw[FX,FX,if_pos (ER l (by omega))]
 |k+1,j+1,l,h,h'=>by
  rw[FX,FX];by_cases ha:IL l=true
  ·rw[if_pos ha,if_pos ha]
  ·have h2:2<=l.length:=by
    rcases Nat.lt_or_ge l.length 2 with h3|h3
    ·exact absurd (ER l (by omega)) ha
    ·exact h3
   rw[if_neg ha,if_neg ha,GW k j (l.take (l.length/2)) (by rw[AZ];omega) (by rw[AZ];omega),
    GW k j (l.drop (l.length/2)) (by rw[List.length_drop];omega) (by rw[List.length_drop];omega)]
def Cc(l:List VS):List VS:=FX l.length l
theorem F6{l:List VS}(h:IL l=true):Cc l=l:=by
 unfold Cc;cases hl:l.length with
 |zero=>rfl
 |succ k=>rw[FX,if_pos h]
theorem OP{l:List VS}(h:¬IL l=true):Cc l=Ck (Cc (l.take (l.length/2))) (Cc (l.drop (l.length/2))):=by
 have h2:2<=l.length:=by
  rcases Nat.lt_or_ge l.length 2 with h3|h3
  ·exact absurd (ER l (by omega)) h
  ·exact h3
 unfold Cc;obtain⟨k,hk⟩:∃k,l.length=k+1:=⟨l.length-1,by omega⟩;rw[show FX l.length l=FX (k+1) l from by rw[hk],FX,if_neg h,
  GW k (l.take (l.length/2)).length (l.take (l.length/2)) (by rw[AZ];omega) (AB _),
  GW k (l.drop (l.length/2)).length (l.drop (l.length/2)) (by rw[List.length_drop];omega) (AB _)]
theorem FF(l:List VS):(Cc l).length<=l.length:=KK _ l
theorem KL:∀(l:List VS),IL l=true↔∀i x y,l[i]? =some x->l[i+1]? =some y->Bf x.1 y.1=true
 |[]=>by simp[IL]
 |[a]=>by simp[IL]
 |a::b::l=>by
  rw[IL,Bool.and_eq_true,KL (b::l)];constructor
  ·rintro⟨h1,h2⟩ i x y hx hy;cases i with
   |zero=>
    simp at hx hy;subst hx;subst hy;exact h1
   |succ i=>exact h2 i x y (by simpa using hx) (by simpa using hy)
  ·intro h;exact⟨h 0 a b rfl rfl,fun i x y hx hy=>h (i+1) x y (by simpa using hx) (by simpa using hy)⟩
section
open Go.RowKit
def CC(w:World)(b:Nat)(s:Sg):Prop:=s.vote.ok/\w.ownsRow b 5 1 (.slice s.A s.sig.length s.cap) s.sig.length (s.sig.map B)/\s.sig.length<=140737488351232
theorem CC.ok{w:World}{b:Nat}{s:Sg}(h:CC w b s):Jm w w.heap.size s/\UN s:=by
 refine⟨⟨h.1,Rd.of_own h.2.1,h.2.2⟩,?_⟩;rcases h.2.1.2 with⟨hv,hn⟩|⟨g,cap,cur,hv,_,_,h1,h2,_⟩
 ·injection hv with _ _ hc
  refine⟨by omega,by unfold maxLen;omega⟩
 ·injection hv with _ _ hc
  subst hc;exact⟨h1,h2⟩
theorem CC.alloc{w:World}{b:Nat}{s:Sg}(h:CC w b s)(o:Obj):CC (w.alloc o) b s:=⟨h.1,h.2.1.alloc o,h.2.2⟩
def Pg(w:World)(l:List VS)(e:Ending)(w':World):Prop:=
 ∃(L:List Sg) (v:Value),e= .returned v/\Wx w w'/\w'.ownsRow w.heap.size 62 23 v L.length (L.flatMap sgc)/\IJ w' w'.heap.size L/\L.map Sg.vs=Cc l
def Wq(w:World)(L:List Sg)(v:Value):Prop:=
 ∃A c,v= .slice A L.length c/\Rd w w.heap.size A (L.flatMap sgc)/\L.length<=c/\c<=maxLen/\IJ w w.heap.size L
theorem Qk{w:World}{b n:Nat}{v:Value}{L:List Sg}(h:w.ownsRow b 62 23 v n (L.flatMap sgc))(hn:n=L.length)(hs:IJ w w.heap.size L):Wq w L v:=by
 subst hn;rcases h.2 with⟨hv,h0⟩|⟨g,cap,cur,hv,_,_,h1,h2,_⟩
 ·subst hv;have hL:L=[]:=AQ h0;subst hL;exact⟨none,0,rfl,Rd.nil,AB _,by unfold maxLen;omega,hs⟩
 ·subst hv;exact⟨_,cap,rfl,Rd.of_own h,h1,h2,hs⟩
theorem EF{P:Program}{o:Oper}{a:Act}{w:World}{K:Act->World->Prop}{Q:Exit->Act->World->Prop}(d:Option Tmp)(hd:o.dst=d)(t e:TypeId)(x:Operand)(ho:o.op= .buildSlice t 1 #[(0,x)])(cs:Array Value)(hx:a.eval x= .agg cs)(hu:P.underlying t=some (.slice e))(hi:(P.info? e).map (fun i=>(i.zero.isSome,i.size))=some (true,cs.size))(xp:0<cs.size)(hsm:cs.size<=1000)(h:K (a.put d (.slice (some ⟨w.heap.size,0,none⟩) 1 1)) (w.alloc (.cells cs e))):o.wp P a w K Q:=by
 subst hd;cases hie:P.info? e with
 |none=>simp[hie]at hi
 |some ie=>
  simp only[hie,Option.map_some,Option.some.injEq,Prod.mk.injEq]at hi;obtain⟨hz,hsz⟩:=hi;obtain⟨z,hzz⟩:=Option.isSome_iff_exists.1 hz;refine wp_buildSlice t e 1 #[(0,x)] ho cs ie z hu hie hzz (by rw[hsz];omega) (by rw[hsz];omega) ?_ h;have hf:=Great.fill_whole (s:=ie.size) (by rw[hsz];exact xp) [Value.agg cs] ((Array.range (1*ie.size)).map (z.cells[· %z.cells.size]!)) (by intro v hv;rw[AM.1 hv,hsz];rfl) (by simp);have ev:(#[(0,x)].map fun((i,x):Nat×Operand)=>(i,a.eval x)).toList=([Value.agg cs].zipIdx 0).map fun x=>(x.2,x.1):=by simp[hx]
  rw[ev,hf];simp[Value.cells]
end

def CD:List Int->List Int->Bool
 |[],[]=>false
 |[],_::_=>true
 |_::_,[]=>false
 |x::a,y::b=>if x=y then CD a b else decide (x<y)
theorem D9:∀a,CD a a=false
 |[]=>rfl
 |x::a=>by rw[CD,if_pos rfl];exact D9 a
theorem Ei:∀a b,CD a b=false->CD b a=false->a=b
 |[],[],_,_=>rfl
 |[],_::_,h,_=>by cases h
 |_::_,[],_,h=>by cases h
 |x::a,y::b,h,h'=>by
  rw[CD]at h h';by_cases e:x=y
  ·subst e;rw[if_pos rfl]at h h';rw[Ei a b h h']
  ·rw[if_neg e]at h;rw[if_neg (Ne.symm e)]at h';simp at h h';omega
theorem Ej:∀a b c,CD a b=true->CD b c=true->CD a c=true
 |[],[],_,h,_=>by cases h
 |_::_,[],_,h,_=>by cases h
 |_,_::_,[],_,h=>by cases h
 |[],_::_,_::_,_,_=>rfl
 |x::a,y::b,z::c,h,h'=>by
  rw[CD]at h h' ⊢;by_cases e:x=y
  ·subst e;rw[if_pos rfl]at h;by_cases e2:x=z
   ·subst e2;rw[if_pos rfl]at h' ⊢;exact Ej a b c h h'
   ·rw[if_neg e2]at h' ⊢;exact h'
  ·rw[if_neg e]at h;by_cases e2:y=z
   ·subst e2;rw[if_neg e];exact h
   ·rw[if_neg e2]at h';simp at h h';rw[if_neg (by omega)];simp;omega
theorem F7{a b:List Int}(h:CD a b=true):CD b a=false:=by
 cases hb:CD b a with
 |false=>rfl
 |true=>have:=Ej a b a h hb;rw[D9]at this;cases this
theorem IM{a b c:List Int}(h:CD b a=false)(h':CD c b=false):CD c a=false:=by
 cases hc:CD c a with
 |false=>rfl
 |true=>
  cases hab:CD a b with
  |true=>have:=Ej c a b hc hab;rw[h']at this;cases this
  |false=>have:=Ei a b hab h;subst this;rw[hc]at h';cases h'
theorem IN:∀(a b c d:List Int),a.length=b.length->CD (a++c) (b++d)=if a=b then CD c d else CD a b
 |[],[],c,d,_=>by simp
 |x::a,y::b,c,d,h=>by
  rw[List.cons_append,List.cons_append,CD,CD,IN a b c d (by simpa using h)];by_cases e:x=y
  ·subst e;by_cases e2:a=b
   ·subst e2;simp
   ·simp[e2]
  ·simp[e]
theorem LH(b:UInt8)(l:List UInt8):Dh (b::l)=b.toNat*256^l.length+Dh l:=by
 have h:∀(l:List UInt8) (v:Nat),l.foldl (fun v b=>v*256+b.toNat) v=v*256^l.length+l.foldl (fun v b=>v*256+b.toNat) 0:=by
  intro l
  induction l with
  |nil=>intro v;simp
  |cons x l ih=>
   intro v;rw[List.foldl_cons,List.foldl_cons,ih (v*256+x.toNat),ih (0*256+x.toNat),Ag,Nat.pow_succ];rw[Nat.add_mul,Nat.zero_mul,Nat.zero_add,Nat.mul_assoc,Nat.mul_comm 256];omega
 unfold Dh;rw[List.foldl_cons,h];simp
theorem Mz:∀(a b:List UInt8),a.length=b.length->Dh a=Dh b->a=b
 |[],[],_,_=>rfl
 |x::a,y::b,hl,h=>by
  have hl':a.length=b.length:=by simpa using hl
  rw[LH,LH,<-hl']at h;have h1:=Lf a;have h2:=Lf b;rw[<-hl']at h2;have hx:x.toNat=y.toNat:=by
   rcases Nat.lt_trichotomy x.toNat y.toNat with hh|hh|hh
   ·have:=Nat.mul_le_mul_right (256^a.length) (show x.toNat+1<=y.toNat from hh);rw[Nat.succ_mul]at this;omega
   ·exact hh
   ·have:=Nat.mul_le_mul_right (256^a.length) (show y.toNat+1<=x.toNat from hh);rw[Nat.succ_mul]at this;omega
  rw[hx]at h;rw[UInt8.toNat_inj.1 hx,Mz a b hl' (by omega)]
theorem OQ{a b:Nm}(h:Dh a.bytes=Dh b.bytes):a=b:=by
 have:=Mz a.bytes b.bytes rfl h;cases a;cases b
 simp[Nm.bytes]at this;simp[this]
def Ki(v:Vt):List Int:=[(Dh v.parent.bytes:Int),v.slot,v.round,v.kind,v.signer,v.choice,(Dh v.value.bytes:Int),v.support]
theorem M1{a b:Vt}(h:Ki a=Ki b):a=b:=by
 simp only[Ki,List.cons.injEq,and_true]at h;obtain⟨h1,h2,h3,h4,h5,h6,h7,h8⟩:=h;have e1:a.parent=b.parent:=OQ (by omega);have e7:a.value=b.value:=OQ (by omega);cases a;cases b
 simp_all
theorem Sf(a b:Nm):(Dh a.bytes:Int)=Dh b.bytes↔a=b:=⟨fun h=>OQ (by omega),fun h=>by rw[h]⟩
theorem LI(a b:Nm):Dc a b=decide ((Dh a.bytes:Int)<Dh b.bytes):=by
 unfold Dc;rw[Bool.eq_iff_iff,decide_eq_true_eq,decide_eq_true_eq];omega
theorem FG(a b:Vt):Bf a b=CD (Ki a) (Ki b):=by
 unfold Bf Ki;simp only[CD,Sf,LI]
 repeat' split
 all_goals first|rfl|(rename_i h;simp[h])|skip
def D8(l:List UInt8):List Int:=l.map fun b=>(b.toNat:Int)
theorem KM:∀{a b:List UInt8},D8 a=D8 b->a=b
 |[],[],_=>rfl
 |x::a,y::b,h=>by
  simp only[D8,List.map_cons,List.cons.injEq]at h;rw[UInt8.toNat_inj.1 (by omega:x.toNat=y.toNat),KM (a:=a) (b:=b) h.2]
theorem DK:∀a b:List UInt8,Cn a b=!CD (D8 b) (D8 a)
 |[],[]=>rfl
 |[],_::_=>rfl
 |_::_,[]=>rfl
 |x::a,y::b=>by
  rw[Cn,DK a b];simp only[D8,List.map_cons,CD];by_cases e:x=y
  ·subst e;simp
  ·have hn:¬(y.toNat:Int)=x.toNat:=fun h=>e (UInt8.toNat_inj.1 (by omega))
   rw[if_neg e,if_neg hn,Bool.eq_iff_iff];simp only[decide_eq_true_eq,Bool.not_eq_true',decide_eq_false_iff_not,UInt8.lt_iff_toNat_lt];omega
theorem Eu:∀a b:List UInt8,Op.bytesLess a b=CD (D8 a) (D8 b)
 |[],[]=>rfl
 |[],_::_=>rfl
 |_::_,[]=>rfl
 |x::a,y::b=>by
  simp only[Op.bytesLess,D8,List.map_cons,CD];rw[show CD (List.map (fun b=>(b.toNat:Int)) a) (List.map (fun b=>(b.toNat:Int)) b)=CD (D8 a) (D8 b)from rfl,<-Eu a b];by_cases e:x=y
  ·subst e;simp
  ·have hn:¬(x.toNat:Int)=y.toNat:=fun h=>e (UInt8.toNat_inj.1 (by omega))
   rw[if_neg hn,Bool.eq_iff_iff];simp[e,UInt8.lt_iff_toNat_lt]
def Dd(x y:VS):Bool:=if x.1=y.1 then Op.bytesLess x.2 y.2 else Bf x.1 y.1
def Vb(x:VS):List Int:=Ki x.1++D8 x.2
theorem LJ(x y:VS):Dd x y=CD (Vb x) (Vb y):=by
 unfold Dd Vb;rw[IN (Ki x.1) (Ki y.1) _ _ (by simp[Ki]),Eu,FG];by_cases e:x.1=y.1
 ·rw[if_pos e,if_pos (by rw[e])]
 ·rw[if_neg e,if_neg (fun h=>e (M1 h))]
theorem Ik:Ord Dd where
 asymm x y h:=by rw[LJ]at h ⊢;exact F7 h
 trans x y z h h':=by rw[LJ]at h h' ⊢;exact IM h h'
theorem CA(a:Vt):Bf a a=false:=by rw[FG];exact D9 _
theorem Dz{a b c:Vt}(h:Bf a b=true)(h':Bf b c=true):Bf a c=true:=by rw[FG]at h h' ⊢;exact Ej _ _ _ h h'
theorem F8{a b:Vt}(h:Bf a b=false)(h':Bf b a=false):a=b:=by rw[FG]at h h';exact M1 (Ei _ _ h h')
theorem F9{a b:Vt}(h:Bf a b=true):Bf b a=false:=by rw[FG]at h ⊢;exact F7 h
theorem EA(a:List UInt8):Cn a a=true:=by rw[DK,D9];rfl
theorem C8{a b c:List UInt8}(h:Cn a b=true)(h':Cn b c=true):Cn a c=true:=by
 rw[DK,Bool.not_eq_true']at*;exact IM h h'
theorem Il{a b:List UInt8}(h:Cn a b=true)(h':Cn b a=true):a=b:=by
 rw[DK,Bool.not_eq_true']at*;exact KM (Ei _ _ h' h)
theorem Kj{a b:List UInt8}(h:Cn a b=false):Cn b a=true:=by
 rw[DK]at*;simp at h ⊢;exact F7 h
def Dq(c:List VS):Prop:=c.Pairwise fun x y=>Bf x.1 y.1=true
theorem KN:∀(c d:List VS),Dq c->Dq d->(∀x,x∈c↔x∈d)->c=d
 |[],[],_,_,_=>rfl
 |[],y::d,_,_,h=>by have:=(h y).2 (by simp);simp at this
 |x::c,[],_,_,h=>by have:=(h x).1 (by simp);simp at this
 |x::c,y::d,h1,h2,h=>by
  obtain⟨a1,b1⟩:=List.pairwise_cons.1 h1;obtain⟨a2,b2⟩:=List.pairwise_cons.1 h2;have hxy:x=y:=by
   rcases List.mem_cons.1 ((h x).1 (by simp))with e|hx
   ·exact e
   ·rcases List.mem_cons.1 ((h y).2 (by simp))with e|hy
    ·exact e.symm
    ·have:=Dz (a1 y hy) (a2 x hx);rw[CA]at this;cases this
  subst hxy;congr 1;refine KN c d b1 b2 (fun z=>⟨fun hz=>?_,fun hz=>?_⟩)
  ·rcases List.mem_cons.1 ((h z).1 (by simp[hz]))with e|hz'
   ·subst e;have:=a1 z hz;rw[CA]at this;cases this
   ·exact hz'
  ·rcases List.mem_cons.1 ((h z).2 (by simp[hz]))with e|hz'
   ·subst e;have:=a2 z hz;rw[CA]at this;cases this
   ·exact hz'
theorem Dq.same{c:List VS}(h:Dq c){x y:VS}(hx:x∈c)(hy:y∈c)(e:x.1=y.1):x=y:=by
 induction c with
 |nil=>cases hx
 |cons z c ih=>
  obtain⟨a,b⟩:=List.pairwise_cons.1 h;rcases List.mem_cons.1 hx with ex|hx
  ·rcases List.mem_cons.1 hy with ey|hy
   ·rw[ex,ey]
   ·have:=a y hy;rw[<-ex,e,CA]at this;cases this
  ·rcases List.mem_cons.1 hy with ey|hy
   ·have:=a x hx;rw[<-ey,e,CA]at this;cases this
   ·exact ih b hx hy
structure FH (l c:List VS):Prop where
 asc:Dq c
 sub:∀x∈c,x∈l
 dom:∀x∈l,∃y∈c,y.1=x.1/\Cn y.2 x.2=true
theorem FH.unique{l c d:List VS}(h:FH l c)(h':FH l d):c=d:=by
 have hHU:∀{c d:List VS},FH l c->FH l d->∀x,x∈c->x∈d:=by
  intro c d h h' x hx;obtain⟨y,hy,e1,l1⟩:=h'.dom x (h.sub x hx);obtain⟨z,hz,e2,l2⟩:=h.dom y (h'.sub y hy);have hzx:z=x:=h.asc.same hz hx (e2.trans e1);subst hzx;have e3:=Il l1 l2;have:y=z:=Prod.ext e1 e3;rw[<-this];exact hy
 exact KN c d h.asc h'.asc (fun x=>⟨hHU h h' x,hHU h' h x⟩)
theorem FH.congr{l l' c:List VS}(h:FH l c)(hm:∀x,x∈l↔x∈l'):FH l' c:=⟨h.asc,fun x hx=>(hm x).1 (h.sub x hx),fun x hx=>h.dom x ((hm x).2 hx)⟩
theorem Gd:∀{l:List VS},IL l=true->Dq l
 |[],_=>List.Pairwise.nil
 |[_],_=>List.pairwise_singleton _ _
 |x::y::l,h=>by
  rw[IL,Bool.and_eq_true]at h;have ih:=Gd h.2;refine List.pairwise_cons.2 ⟨fun z hz=>?_,ih⟩;rcases List.mem_cons.1 hz with rfl|hz
  ·exact h.1
  ·exact Dz h.1 ((List.pairwise_cons.1 ih).1 z hz)
theorem ES{l:List VS}(h:Dq l):FH l l:=⟨h,fun _ hx=>hx,fun x hx=>⟨x,hx,rfl,EA _⟩⟩
theorem WV{x y:VS}{a b:List VS}(h:x∈a∨x∈b):x∈y::a∨x∈b:=by
 rcases h with h|h
 ·exact .inl (List.mem_cons_of_mem _ h)
 ·exact .inr h
theorem WW{x y:VS}{a b:List VS}(h:x∈a∨x∈b):x∈a∨x∈y::b:=by
 rcases h with h|h
 ·exact .inl h
 ·exact .inr (List.mem_cons_of_mem _ h)
theorem FY:∀(n:Nat) (a b:List VS),a.length+b.length<=n->∀x∈Ck a b,x∈a∨x∈b
 |_,[],b,_,x,hx=>by rw[KJ]at hx;exact .inr hx
 |_,x::a,[],_,z,hz=>by rw[KI]at hz;exact .inl hz
 |0,x::a,y::b,h,_,_=>by simp at h
 |n+1,x::a,y::b,h,z,hz=>by
  have h1:=FY n a (y::b) (by simp at h ⊢;omega) z;have h2:=FY n (x::a) b (by simp at h ⊢;omega) z;rw[Ck]at hz;split at hz
  ·rcases List.mem_cons.1 hz with rfl|hz
   ·exact .inl (by simp)
   ·exact WV (h1 hz)
  ·split at hz
   ·rcases List.mem_cons.1 hz with rfl|hz
    ·exact .inr (by simp)
    ·exact WW (h2 hz)
   ·split at hz
    ·exact WW (h2 hz)
    ·exact WV (h1 hz)
theorem US{x z:VS}{a b:List VS}(h:z∈a++b):z∈x::a++b:=List.mem_cons_of_mem _ h
theorem UT{y z:VS}{a b:List VS}(h:z∈a++b):z∈a++y::b:=by
 rcases AP.1 h with h|h
 ·exact AP.2 (.inl h)
 ·exact AP.2 (.inr (List.mem_cons_of_mem _ h))
theorem Sh{x z:VS}{a b:List VS}(h:z∈x::a++b)(e:¬z=x):z∈a++b:=by
 rcases List.mem_cons.1 h with h|h
 ·exact absurd h e
 ·exact h
theorem Si{y z:VS}{a b:List VS}(h:z∈a++y::b)(e:¬z=y):z∈a++b:=by
 rcases AP.1 h with h|h
 ·exact AP.2 (.inl h)
 ·rcases List.mem_cons.1 h with h|h
  ·exact absurd h e
  ·exact AP.2 (.inr h)
theorem Gu:∀(n:Nat) (a b:List VS),a.length+b.length<=n->Dq a->Dq b->FH (a++b) (Ck a b)
 |_,[],b,_,_,hb=>by rw[KJ,List.nil_append];exact ES hb
 |_,x::a,[],_,ha,_=>by rw[KI,List.append_nil];exact ES ha
 |0,x::a,y::b,h,_,_=>by simp at h
 |n+1,x::a,y::b,h,ha,hb=>by
  have hn1:a.length+(y::b).length<=n:=by simp at h ⊢;omega
  have hn2:(x::a).length+b.length<=n:=by simp at h ⊢;omega
  obtain⟨a1,a2⟩:=List.pairwise_cons.1 ha;obtain⟨b1,b2⟩:=List.pairwise_cons.1 hb;have h1:=Gu n a (y::b) hn1 a2 hb;have h2:=Gu n (x::a) b hn2 ha b2;rw[Ck];by_cases c1:Bf x.1 y.1=true
  ·rw[if_pos c1];refine⟨List.pairwise_cons.2 ⟨fun z hz=>?_,h1.asc⟩,fun z hz=>?_,fun z hz=>?_⟩
   ·rcases FY _ _ _ (AB _) z hz with hz|hz
    ·exact a1 z hz
    ·rcases List.mem_cons.1 hz with rfl|hz
     ·exact c1
     ·exact Dz c1 (b1 z hz)
   ·rcases List.mem_cons.1 hz with rfl|hz
    ·simp
    ·exact US (h1.sub z hz)
   ·by_cases e:z=x
    ·subst e;exact⟨z,by simp,rfl,EA _⟩
    ·obtain⟨u,hu,p⟩:=h1.dom z (Sh hz e);exact⟨u,by simp[hu],p⟩
  ·rw[if_neg c1];by_cases c2:Bf y.1 x.1=true
   ·rw[if_pos c2];refine⟨List.pairwise_cons.2 ⟨fun z hz=>?_,h2.asc⟩,fun z hz=>?_,fun z hz=>?_⟩
    ·rcases FY _ _ _ (AB _) z hz with hz|hz
     ·rcases List.mem_cons.1 hz with rfl|hz
      ·exact c2
      ·exact Dz c2 (a1 z hz)
     ·exact b1 z hz
    ·rcases List.mem_cons.1 hz with rfl|hz
     ·simp
     ·exact UT (h2.sub z hz)
    ·by_cases e:z=y
     ·subst e;exact⟨z,by simp,rfl,EA _⟩
     ·obtain⟨u,hu,p⟩:=h2.dom z (Si hz e);exact⟨u,by simp[hu],p⟩
   ·rw[if_neg c2];have exy:x.1=y.1:=F8 (Bool.eq_false_iff.2 c1) (Bool.eq_false_iff.2 c2);by_cases c3:Cn x.2 y.2=true
    ·rw[if_pos c3];refine⟨h2.asc,fun z hz=>?_,fun z hz=>?_⟩
     ·exact UT (h2.sub z hz)
     ·by_cases e:z=y
      ·subst e;obtain⟨u,hu,p1,p2⟩:=h2.dom x (by simp);exact⟨u,hu,p1.trans exy,C8 p2 c3⟩
      ·exact h2.dom z (Si hz e)
    ·rw[if_neg c3];have c4:=Kj (Bool.eq_false_iff.2 c3);refine⟨h1.asc,fun z hz=>?_,fun z hz=>?_⟩
     ·exact US (h1.sub z hz)
     ·by_cases e:z=x
      ·subst e;obtain⟨u,hu,p1,p2⟩:=h1.dom y (by simp);exact⟨u,hu,p1.trans exy.symm,C8 p2 c4⟩
      ·exact h1.dom z (Sh hz e)
theorem KO:∀(n:Nat) (l:List VS),l.length<=n->FH l (Cc l)
 |0,l,h=>by
  have:l=[]:=AQ (by omega);subst this;exact ES List.Pairwise.nil
 |n+1,l,h=>by
  by_cases ha:IL l=true
  ·rw[F6 ha];exact ES (Gd ha)
  ·have h2:2<=l.length:=by
    rcases Nat.lt_or_ge l.length 2 with h3|h3
    ·exact absurd (ER l (by omega)) ha
    ·exact h3
   rw[OP ha];have i1:=KO n (l.take (l.length/2)) (by rw[AZ];omega);have i2:=KO n (l.drop (l.length/2)) (by rw[List.length_drop];omega);have m:=Gu _ _ _ (AB _) i1.asc i2.asc;refine⟨m.asc,fun x hx=>?_,fun x hx=>?_⟩
   ·rcases AP.1 (m.sub x hx)with hx|hx
    ·exact List.mem_of_mem_take (i1.sub x hx)
    ·exact List.mem_of_mem_drop (i2.sub x hx)
   ·have hx':x∈l.take (l.length/2)++l.drop (l.length/2):=by rw[Aj];exact hx
    rcases AP.1 hx' with hx|hx
    ·obtain⟨y,hy,e1,l1⟩:=i1.dom x hx;obtain⟨z,hz,e2,l2⟩:=m.dom y (by simp[hy]);exact⟨z,hz,e2.trans e1,C8 l2 l1⟩
    ·obtain⟨y,hy,e1,l1⟩:=i2.dom x hx;obtain⟨z,hz,e2,l2⟩:=m.dom y (by simp[hy]);exact⟨z,hz,e2.trans e1,C8 l2 l1⟩
theorem DC(l:List VS):FH l (Cc l):=KO _ l (AB _)
def Da{α:Type}(f:α->Vt)(s:List α):Nat->List α
 |0=>[]
 |i+1=>Da f s i++match s[i]? with
  |some x=>if(i=0∨(s[i-1]?.map f)≠some (f x))then[x]else[]
  |none=>[]
theorem KP{α β:Type}(f:α->Vt)(f':β->Vt)(k:α->β)(hk:∀x,f' (k x)=f x)(s:List α):∀i,(Da f s i).map k=Da f' (s.map k) i
 |0=>rfl
 |i+1=>by
  rw[Da,Da,Ad,KP f f' k hk s i,AV,AV];congr 1;rcases s[i]? with _|x
  ·rfl
  ·have e:((s[i-1]?.map k).map f')=s[i-1]?.map f:=by
    rcases s[i-1]? with _|y
    ·rfl
    ·simp[hk]
   simp only[Option.map_some,e,hk];split <;> rfl
theorem M2{α:Type}(f:α->Vt)(s:List α):∀i,(Da f s i).length<=i
 |0=>AB _
 |i+1=>by
  have:=M2 f s i;rw[Da,AI];rcases s[i]? with _|x
  ·simp;omega
  ·simp only;split <;> simp <;> omega
theorem M3(s:List VS)(hs:Asc Dd s):∀i,i<=s.length->FH (s.take i) (Da Prod.fst s i)/\(∀y,0<i->s[i-1]? =some y->∃z,(Da Prod.fst s i).getLast? =some z/\z.1=y.1)
 |0,_=>⟨by simp[Da];exact ES List.Pairwise.nil,fun _ h=>absurd h (Nat.lt_irrefl _)⟩
 |i+1,hi=>by
  obtain⟨h,hl⟩:=M3 s hs i (by omega);obtain⟨x,hx⟩:∃x,s[i]? =some x:=⟨_,AE (by omega)⟩;have ht:s.take (i+1)=s.take i++[x]:=by rw[Ah,hx];rfl
  rw[Da,hx,ht];simp only[];by_cases c:i=0∨(s[i-1]?.map Prod.fst)≠some x.1
  ·rw[if_pos c];refine⟨⟨?_,?_,?_⟩,fun y _ hy=>⟨x,by simp,by rw[Nat.add_sub_cancel,hx]at hy;cases hy;rfl⟩⟩
   ·refine List.pairwise_append.2 ⟨h.asc,List.pairwise_singleton _ _,fun u hu v hv=>?_⟩;rw[AM.1 hv];have hu':=h.sub u hu;obtain⟨k,hk⟩:=List.mem_iff_getElem?.1 hu';rw[BT]at hk;split at hk
    ·rename_i hki
     have h0:i≠0:=by omega
     obtain⟨y,hy⟩:∃y,s[i-1]? =some y:=⟨_,AE (by omega)⟩;have hne:x.1≠y.1:=by
      rcases c with c|c
      ·exact absurd c h0
      ·rw[hy]at c;intro e;apply c;simp[e]
     have hyx:Dd x y=false:=hs.get (by omega) hy hx;have h1:Bf y.1 x.1=true:=by
      unfold Dd at hyx;rw[if_neg hne]at hyx;cases hh:Bf y.1 x.1 with
      |true=>rfl
      |false=>exact absurd (F8 hyx hh) hne
     rcases Nat.lt_or_ge k (i-1)with hlt|hge
     ·have huy:Dd y u=false:=hs.get hlt hk hy;by_cases e:y.1=u.1
      ·rw[<-e];exact h1
      ·unfold Dd at huy;rw[if_neg e]at huy;have h2:Bf u.1 y.1=true:=by
        cases hh:Bf u.1 y.1 with
        |true=>rfl
        |false=>exact absurd (F8 huy hh) e
       exact Dz h2 h1
     ·obtain rfl:k=i-1:=by omega
      rw[hk]at hy;cases hy;exact h1
    ·cases hk
   ·intro u hu;rcases AP.1 hu with hu|hu
    ·exact AP.2 (.inl (h.sub u hu))
    ·exact AP.2 (.inr hu)
   ·intro u hu;rcases AP.1 hu with hu|hu
    ·obtain⟨y,hy,p⟩:=h.dom u hu;exact⟨y,by simp[hy],p⟩
    ·rw[AM.1 hu];exact⟨x,by simp,rfl,EA _⟩
  ·rw[if_neg c,List.append_nil];have h0:i≠0:=fun e=>c (.inl e)
   obtain⟨y,hy⟩:∃y,s[i-1]? =some y:=⟨_,AE (by omega)⟩;have e:y.1=x.1:=by
    rcases Classical.em (y.1=x.1)with e|e
    ·exact e
    ·exact absurd (.inr (by rw[hy];simpa using e)) c
   obtain⟨z,hz,ez⟩:=hl y (by omega) hy;refine⟨⟨h.asc,fun u hu=>AP.2 (.inl (h.sub u hu)),fun u hu=>?_⟩,fun u _ hu=>?_⟩
   ·rcases AP.1 hu with hu|hu
    ·exact h.dom u hu
    ·rw[AM.1 hu];obtain⟨v,hv,e1,l1⟩:=h.dom y (List.mem_iff_getElem?.2 ⟨i-1,by rw[BT,if_pos (by omega),hy]⟩);refine⟨v,hv,e1.trans e,C8 l1 ?_⟩;have hyx:Dd x y=false:=hs.get (by omega) hy hx;unfold Dd at hyx;rw[if_pos e.symm,Eu]at hyx;rw[DK,hyx];rfl
   ·rw[Nat.add_sub_cancel,hx]at hu;cases hu;exact⟨z,hz,ez.trans e⟩
theorem M4{l s:List VS}(hp:s.Perm l)(hs:Asc Dd s):Da Prod.fst s s.length=Cc l:=by
 have h:=(M3 s hs s.length (AB _)).1;rw[List.take_length]at h;exact(h.congr (fun x=>hp.mem_iff)).unique (DC l)
section
open Go.RowKit
theorem C1(x n:Nat):Ae x (n+1)=Ae x n+(x.testBit n).toNat:=by
 rw[Nat.toNat_testBit];rfl
theorem FI(a b:Nat):∀n,Ae (a&&& b) n+Ae (a|||b) n=Ae a n+Ae b n
 |0=>rfl
 |n+1=>by
  have h:=FI a b n;rw[C1,C1,C1,C1,Nat.testBit_and,Nat.testBit_or];cases a.testBit n <;> cases b.testBit n <;> simp <;> omega
theorem CM{a b:Nat}(h:∀i,i<10->a.testBit i=true->b.testBit i=true):∀n,n<=10->Ae a n<=Ae b n
 |0,_=>AB _
 |n+1,hn=>by
  have h1:=CM h n (by omega);have h2:=h n (by omega);rw[C1,C1];cases ha:a.testBit n with
  |false=>simp;omega
  |true=>rw[h2 ha];omega
theorem Bq{a:Nat}:∀n,0<Ae a n->∃i,i<n/\a.testBit i=true
 |0,h=>by simp[Ae]at h
 |n+1,h=>by
  cases ha:a.testBit n with
  |true=>exact⟨n,by omega,ha⟩
  |false=>
   rw[C1,ha]at h;obtain⟨i,h1,h2⟩:=Bq n (by simpa using h);exact⟨i,by omega,h2⟩
def Bd(n:Nat):Nat:=n-(n-1)/3
def Sj(n:Nat):Nat:=if n<1 then 0 else(n-1)/3+1
def InN(s x:Nat):Prop:=∀i,i<10->s.testBit i=true->x.testBit i=true
theorem M5{x s t:Nat}(hs:InN s x)(ht:InN t x)(h1:Bd (Ae x 10)<=Ae s 10)(h2:Bd (Ae x 10)<=Ae t 10)(hx:0<Ae x 10):Sj (Ae x 10)<=Ae (s&&& t) 10:=by
 have h3:=FI s t 10;have h4:Ae (s|||t) 10<=Ae x 10:=CM (fun i hi h=>by
  rw[Nat.testBit_or,Bool.or_eq_true]at h;rcases h with h|h
  ·exact hs i hi h
  ·exact ht i hi h) 10 (AB _)
 unfold Bd at h1 h2;unfold Sj;rw[if_neg (by omega)];omega
theorem IP{x:Nat}(hx:0<Ae x 10):0<Bd (Ae x 10):=by unfold Bd;omega
def Co(a b:Vt):Prop:=a.choice=b.choice/\a.value=b.value
instance (a b:Vt):Decidable (Co a b):=by unfold Co;infer_instance
structure OR (x:Nat)(p:Nm)(s:Int)(l O:List Vt):Prop where
 mem:∀v∈O,v∈l
 ok:∀v∈O,AW v/\v.parent=p/\v.slot=s
 prev:∀v∈O,v.kind=3->2<=v.round->(∃S,InN S x/\Bd (Ae x 10)<=Ae S 10/\∀i,i<10->S.testBit i=true->∃w∈O,w.signer=(i:Int)/\w.kind=4/\w.round=v.round-1/\(Co v w∨w.choice=2))/\
  ∃w∈O,w.round=v.round-1/\Co v w/\(w.kind=4∨w.kind=3)
 prec:∀v∈O,v.kind=4->v.choice≠2->∃w∈O,w.kind=3/\w.round=v.round/\Co v w
structure Kk (x:Nat)(O:List Vt)(r c:Int)(val:Nm):Prop where
 ne:c≠2
 quo:∃S,InN S x/\Bd (Ae x 10)<=Ae S 10/\∀i,i<10->S.testBit i=true->∃w∈O,w.signer=(i:Int)/\w.kind=4/\w.round=r/\w.choice=c/\w.value=val
def I3(x:Nat)(L:List Vt):Prop:=∃T,InN T x/\Sj (Ae x 10)<=Ae T 10/\∀i,i<10->T.testBit i=true->∃a∈L,∃b∈L,a.signer=(i:Int)/\Ms a b
theorem I3.mono{x:Nat}{L L':List Vt}(h:I3 x L)(hl:∀v∈L,v∈L'):I3 x L':=by
 obtain⟨T,h1,h2,h3⟩:=h;refine⟨T,h1,h2,fun i hi ht=>?_⟩;obtain⟨a,ha,b,hb,h⟩:=h3 i hi ht;exact⟨a,hl a ha,b,hl b hb,h⟩
theorem M6{x:Nat}{L:List Vt}{S S':Nat}(hS:InN S x)(hS':InN S' x)(h1:Bd (Ae x 10)<=Ae S 10)(h2:Bd (Ae x 10)<=Ae S' 10)(hx:0<Ae x 10)(h:∀i,i<10->S.testBit i=true->S'.testBit i=true->∃a∈L,∃b∈L,a.signer=(i:Int)/\Ms a b):I3 x L:=
 ⟨S&&& S',fun i hi ht=>by rw[Nat.testBit_and,Bool.and_eq_true]at ht;exact hS i hi ht.1,M5 hS hS' h1 h2 hx,fun i hi ht=>by
  rw[Nat.testBit_and,Bool.and_eq_true]at ht;exact h i hi ht.1 ht.2⟩
theorem Kl{x:Nat}{p:Nm}{s:Int}{l1 l2 O1 O2:List Vt}(h1:OR x p s l1 O1)(h2:OR x p s l2 O2)(hx:0<Ae x 10){r c:Int}{val:Nm}(ho:Kk x O1 r c val)(hr:1<=r):∀(d:Nat) (v:Vt),v∈O2->v.kind=3->v.round=r+1+(d:Int)->(v.choice≠c∨v.value≠val)->I3 x (l1++l2):=by
 intro d
 induction d with
 |zero=>
  intro v hv hk hrd hne;obtain⟨⟨S,hS,hq,hw⟩,_⟩:=h2.prev v hv hk (by omega);obtain⟨S',hS',hq',hw'⟩:=ho.quo;refine M6 hS hS' hq hq' hx fun i hi ht ht'=>?_
  obtain⟨a,ha,a1,a2,a3,a4⟩:=hw i hi ht;obtain⟨b,hb,b1,b2,b3,b4,b5⟩:=hw' i hi ht';obtain⟨va,pa,sa⟩:=h2.ok a ha;obtain⟨vb,pb,sb⟩:=h1.ok b hb;have hne2:=ho.ne;refine⟨a,BY _ (h2.mem a ha),b,BB _ (h1.mem b hb),a1,fun e=>?_,⟨by omega,by rw[pa,pb],by rw[sa,sb],by omega,by omega⟩,va,vb⟩;subst e;rcases a4 with⟨e1,e2⟩|e
  ·rcases hne with h|h
   ·exact h (by omega)
   ·exact h (by rw[e2,b5])
  ·omega
 |succ d ih=>
  intro v hv hk hrd hne;obtain⟨_,w,hw,w1,⟨w2,w3⟩,w4⟩:=h2.prev v hv hk (by omega);rcases w4 with w4|w4
  ·obtain⟨vv,_,_⟩:=h2.ok v hv;have hc:=(vv.2.2.2.2.2.1 hk).2.2.1;obtain⟨u,hu,u1,u2,u3,u4⟩:=h2.prec w hw w4 (by omega);refine ih u hu u1 (by push_cast at hrd ⊢;omega) ?_;rcases hne with h|h
   ·exact .inl (by omega)
   ·exact .inr (by rw[<-u4,<-w3];exact h)
  ·refine ih w hw w4 (by push_cast at hrd ⊢;omega) ?_;rcases hne with h|h
   ·exact .inl (by omega)
   ·exact .inr (by rw[<-w3];exact h)
theorem GA{x:Nat}{O:List Vt}{r c:Int}{val:Nm}(ho:Kk x O r c val)(hx:0<Ae x 10):∃w∈O,w.kind=4/\w.round=r/\w.choice=c/\w.value=val:=by
 obtain⟨S,_,hq,hw⟩:=ho.quo;obtain⟨i,hi,ht⟩:=Bq 10 (Nat.lt_of_lt_of_le (IP hx) hq);obtain⟨w,hw,_,r⟩:=hw i hi ht;exact⟨w,hw,r⟩
theorem KQ{x:Nat}{p:Nm}{s:Int}{l1 l2 O1 O2:List Vt}(h1:OR x p s l1 O1)(h2:OR x p s l2 O2)(hx:0<Ae x 10){r r' c c':Int}{val val':Nm}(ho:Kk x O1 r c val)(ho':Kk x O2 r' c' val')(hr:1<=r)(hlt:r<r')(hne:val≠val'):I3 x (l1++l2):=by
 obtain⟨w,hw,w1,w2,w3,w4⟩:=GA ho' hx;obtain⟨u,hu,u1,u2,u3,u4⟩:=h2.prec w hw w1 (by rw[w3];exact ho'.ne);refine Kl h1 h2 hx ho hr (u.round-(r+1)).toNat u hu u1 (by omega) (.inr ?_);rw[<-u4,w4];exact fun e=>hne e.symm
theorem L4{x:Nat}{p:Nm}{s:Int}{l1 l2 O1 O2:List Vt}(h1:OR x p s l1 O1)(h2:OR x p s l2 O2)(hx:0<Ae x 10){r r' c c':Int}{val val':Nm}(ho:Kk x O1 r c val)(ho':Kk x O2 r' c' val')(hne:val≠val'):I3 x (l1++l2):=by
 obtain⟨w,hw,w1,w2,_,_⟩:=GA ho hx;obtain⟨u,hu,u1,u2,_,_⟩:=GA ho' hx;have k1:=((h1.ok w hw).1.2.2.2.2.2.2.1 w1).2.1.1;have k2:=((h2.ok u hu).1.2.2.2.2.2.2.1 u1).2.1.1;by_cases e:r=r'
 ·obtain⟨S,hS,hq,hw⟩:=ho.quo;obtain⟨S',hS',hq',hw'⟩:=ho'.quo;refine M6 hS hS' hq hq' hx fun i hi ht ht'=>?_
  obtain⟨a,ha,a1,a2,a3,a4,a5⟩:=hw i hi ht;obtain⟨b,hb,b1,b2,b3,b4,b5⟩:=hw' i hi ht';obtain⟨va,pa,sa⟩:=h1.ok a ha;obtain⟨vb,pb,sb⟩:=h2.ok b hb;refine⟨a,BB _ (h1.mem a ha),b,BY _ (h2.mem b hb),a1,fun e=>?_,⟨by omega,by rw[pa,pb],by rw[sa,sb],by omega,by omega⟩,va,vb⟩;subst e;exact hne (by rw[<-a5,<-b5])
 ·by_cases h:r<r'
  ·exact KQ h1 h2 hx ho ho' (by omega) h hne
  ·exact(KQ h2 h1 hx ho' ho (by omega) (by omega) (fun e=>hne e.symm)).mono fun v hv=>by
    rcases AP.1 hv with h|h
    ·exact BY _ h
    ·exact BB _ h
def xOf(M:Int):Nat:=(M%1024).toNat
theorem OS(M:Int):xOf M<1024:=by unfold xOf;omega
theorem DU(x:Nat)(hx:x<1024):xOf (x:Int)=x:=by unfold xOf;omega
theorem Vc(y:BitVec 64):(y&&& BitVec.ofInt 64 1023).toNat=y.toNat%1024:=by
 rw[BitVec.toNat_and];show y.toNat&&& (2^10-1)=_;rw[Nat.and_two_pow_sub_one_eq_mod]
theorem Vd(y:BitVec 64):(y&&& BitVec.ofInt 64 1).toNat=y.toNat%2:=by
 rw[BitVec.toNat_and];show y.toNat&&& (2^1-1)=_;rw[Nat.and_two_pow_sub_one_eq_mod]
theorem Sk(M:Int):bits .and .i64 M 1023=(xOf M:Int):=by
 show IntKind.i64.wrap ((BitVec.ofInt 64 M&&& BitVec.ofInt 64 1023).toNat:Int)=_;rw[Vc,BitVec.toNat_ofInt,IntKind.wrap_i64];unfold xOf;omega
theorem Sl(M:Int):bits .and .i64 M 1=M%2:=by
 show IntKind.i64.wrap ((BitVec.ofInt 64 M&&& BitVec.ofInt 64 1).toNat:Int)=_;rw[Vd,BitVec.toNat_ofInt,IntKind.wrap_i64];omega
theorem UJ(M:Int)(i:Nat)(hi:i<10):(M/((2^i:Nat):Int)%2==1)=(xOf M).testBit i:=by
 rw[Nat.testBit_eq_decide_div_mod_eq];unfold xOf;rw[Bool.eq_iff_iff,beq_iff_eq,decide_eq_true_eq];rcases(by omega:i=0∨i=1∨i=2∨i=3∨i=4∨i=5∨i=6∨i=7∨i=8∨i=9)with rfl|rfl|rfl|rfl|rfl|rfl|rfl|rfl|rfl|rfl <;> simp <;> omega
theorem ET(M:Int)(i:Nat)(hi:i<10)(w:World):Calls prog 19 #[.int .i64 M,.int .i64 (i:Int)] w fun e w'=>e= .returned (.bool ((xOf M).testBit i))/\w'=w:=by
 have ha:=Sl (M/((2^i:Nat):Int));have hb:=UJ M i hi;rw[<-ha]at hb;clear ha;generalize (xOf M).testBit i=r at*;rcases(by omega:i=0∨i=1∨i=2∨i=3∨i=4∨i=5∨i=6∨i=7∨i=8∨i=9)with rfl|rfl|rfl|rfl|rfl|rfl|rfl|rfl|rfl|rfl
 all_goals
  simp at hb;go_enter func19,ntmps19;go_wp2;go_ret;exact⟨rfl,rfl⟩
theorem Cd(M:Int)(w:World):Calls prog 15 #[.int .i64 M] w fun e w'=>e= .returned (.int .i64 ((Ae (xOf M) 10:Nat):Int))/\w'=w:=by
 have H:=AA (fun W=>Se (xOf M) W (OS M));have hw:=I2 (xOf M) (OS M);have ha:=Sk M;generalize Ae (xOf M) 10=r at*;generalize xOf M=x at*;go_enter func15,ntmps15;go_wp2_with (go_at_call 38;refine(H.out _).mono ?_;rintro en w2 ⟨rfl,hw2⟩;replace hw2:=hw2.symm;subst hw2)
 go_ret;exact⟨rfl,rfl⟩
theorem FZ(n:Nat)(hn:n<=10)(w:World):Calls prog 115 #[.int .i64 (n:Int)] w fun e w'=>e= .returned (.int .i64 ((Bd n:Nat):Int))/\w'=w:=by
 rcases(by omega:n=0∨n=1∨n=2∨n=3∨n=4∨n=5∨n=6∨n=7∨n=8∨n=9∨n=10)with rfl|rfl|rfl|rfl|rfl|rfl|rfl|rfl|rfl|rfl|rfl
 all_goals
  go_enter func115,ntmps115;go_wp2;go_ret;exact⟨rfl,rfl⟩
end
section
open Go.RowKit Go.Shelf
attribute [local go_sem] Oper.semAt_some
def CK(s n:Nat):List Nat:=(List.range n).filter fun i=>s.testBit i
theorem GB{s n:Nat}(h:s.testBit n=true):CK s (n+1)=CK s n++[n]:=by simp[CK,List.range_succ,List.filter_append,h]
theorem EG{s n:Nat}(h:s.testBit n=false):CK s (n+1)=CK s n:=by simp[CK,List.range_succ,List.filter_append,h]
theorem GC(s n:Nat):(CK s n).length<=n:=by
 have:=List.length_filter_le (fun i=>s.testBit i) (List.range n);rwa[List.length_range]at this
theorem C9{s n i:Nat}:i∈CK s n↔i<n/\s.testBit i=true:=by simp[CK]
def Ew(n₀ B:Nat)(V W:World):Prop:=Below n₀ V W/\W.heap[B]? =V.heap[B]?
theorem M7{n₀ B:Nat}{U V W:World}(h:Ew n₀ B U V)(k:Ew n₀ B V W):Ew n₀ B U W:=⟨h.1.trans k.1,k.2.trans h.2⟩
theorem Sm(n:Nat)(hn:1<=n)(l Bn n₀:Nat)(M:Int)(J Jx:List Nat->World->Prop)(hY:∀(pre:List Nat) (x:Nat) (W:World),J pre W->pre.length<10->YieldAt Fence.wide (n-1) prog l #[.int .i64 (x:Int)] W fun e W'=>(e= .returned (.bool true)/\J (pre++[x]) W'/\Ew n₀ Bn W W')∨(e= .returned (.bool false)/\Jx (pre++[x]) W'))(W:World)(hB:Boxed W Bn 22 (.int .i64 M))(h0:J [] W):CallsIn Fence.wide n prog 128 #[.func (.yield l) #[] #[],.pointer (some ⟨Bn,0,none⟩)] W fun e W'=>(∃v,e= .returned v)/\((∃ys,ys=CK (xOf M) 10/\J ys W')∨(∃pre,True/\Jx pre W')):=by
 have HH:=AA (fun i (hi:i<10) W=>ET M i hi W);refine callsIn_of_wp func128 rfl trivial ?_ rfl;simp only[ntmps128,List.size_toArray,Ag,List.length_nil,Nat.reduceAdd,Nat.reduceSub,Array.replicate_succ,Array.replicate_zero,List.push_toArray,List.append_toArray,List.nil_append,List.cons_append]
 gi_wp2
 gi_loopw [4] (fun iv wr=>∃i:Nat,iv= .int .i64 (i:Int)/\i<=10/\Boxed wr Bn 22 (.int .i64 M)/\J (CK (xOf M) i) wr) (fun iv _=>10-(intOf iv).toNat)
 case atStart=>exact⟨0,rfl,by omega,hB,h0⟩
 case round=>
  obtain⟨i,rfl,hin,hBQ,hJ⟩:=hrel;have xH:=hBQ.cell;by_cases hi:i<10
  ·have di:decide ((i:Int)<10)=true:=by simp;omega
   have H:=AA (HH.out i hi);cases hb:(xOf M).testBit i with
   |true=>
    rw[hb]at H;have zf:=GB hb;obtain⟨fn,tmps,assign,body,hy,hR⟩:=hY _ i wr hJ (by have:=GC (xOf M) i;omega)
    gi_wp2_with (refine⟨trivial,?_⟩;gi_at_call 19;refine(callsIn_wide.2 (H.out _)).mono ?_;rintro en w2 ⟨rfl,hw2⟩;replace hw2:=hw2.symm;subst hw2)
    refine hR.mono ?_;rintro e W3 (⟨rfl,hJ3,hk3⟩|⟨rfl,hx3⟩)
    ·have hCi:Boxed W3 Bn 22 (.int .i64 M):=hk3.2.trans hBQ
     gi_wp2
     go_roundw
     case rel=>exact⟨i+1,by go_num,by omega,hCi,by rw[zf];exact hJ3⟩
     case measure=>simp[intOf];omega
    ·gi_wp2
     refine bodyPost_ret (results_none rfl _ _ _) rfl ?_;exact⟨⟨_,rfl⟩,.inr ⟨_,trivial,hx3⟩⟩
   |false=>
    rw[hb]at H;have zf:=EG hb
    gi_wp2_with (refine⟨trivial,?_⟩;gi_at_call 19;refine(callsIn_wide.2 (H.out _)).mono ?_;rintro en w2 ⟨rfl,hw2⟩;replace hw2:=hw2.symm;subst hw2)
    refine⟨fun _ h=>(by cases h),?_⟩
    gi_wp2
    go_roundw
    case rel=>exact⟨i+1,by go_num,by omega,hBQ,by rw[zf];exact hJ⟩
    case measure=>simp[intOf];omega
  ·have di:decide ((i:Int)<10)=false:=by simp;omega
   have hBR:i=10:=by omega
   subst hBR
   gi_wp2
   go_end0;exact⟨⟨_,rfl⟩,.inl ⟨_,rfl,hJ⟩⟩
theorem Ql(n:Nat)(hn:1<=n)(Bn n₀:Nat)(M:Int)(w:World)(hBn:Boxed w Bn 22 (.int .i64 M)):SeqStopsK Fence.wide n prog 128 #[.pointer (some ⟨Bn,0,none⟩)] (fun x:Nat=>#[Value.int .i64 (x:Int)]) (Ew n₀ Bn) (fun ys=>ys=CK (xOf M) 10) (fun _=>True) 10 w:=fun l J Jx W hW _ _ hY h0=>
 Sm n hn l Bn n₀ M J Jx hY W ((hW.block Bn hBn.lt).trans hBn) h0
theorem Ph(M:Int)(w:World):Calls prog 86 #[.int .i64 M] w fun e w'=>e= .returned (.func (.func 128) #[] #[.pointer (some ⟨w.heap.size,0,none⟩)])/\w'=w.alloc (.cells #[.int .i64 M] 22):=by
 go_enter func86,ntmps86;go_wp2;go_ret;exact⟨rfl,rfl⟩
theorem Qm:(prog.info? 3).map (fun i=>(i.zero,i.size,i.bytes))=some (some (.int .i64 0),1,8):=by kernel_rfl
theorem Pi(M:Int)(w:World):Calls prog 52 #[.int .i64 M] w fun e w'=>∃v,e= .returned v/\w'.ownsRow w.heap.size 3 1 v (CK (xOf M) 10).length ((CK (xOf M) 10).map fun i:Nat=>Value.int .i64 (i:Int))/\Wx w w':=by
 obtain⟨i0,hi,hz0,hz1,hz2⟩:=info_parts Qm;have zo:=AA (fun W=>Ph M W);refine(callsIn_wide (n:=3)).1 ?_;refine callsIn_of_wp_marks func52 rfl trivial ?_ rfl;simp only[ntmps52,List.size_toArray,Ag,List.length_nil,Nat.reduceAdd,Nat.reduceSub,Array.replicate_succ,Array.replicate_zero,List.push_toArray,List.append_toArray,List.nil_append,List.cons_append]
 gi_wp2_with (refine⟨trivial,?_⟩;gi_at_call 86;refine(callsIn_wide.2 (zo.out _)).mono ?_;rintro e w' ⟨rfl,rfl⟩)
 have bO:=Boxed.new w 114 (.slice none 0 0);have bN:=Boxed.new (w.alloc (.cells #[.slice none 0 0] 114)) 22 (.int .i64 M);rw[World.size_alloc]at bN;have hB0:Wx w ((w.alloc (.cells #[.slice none 0 0] 114)).alloc (.cells #[.int .i64 M] 22)):=((AC _ w).alloc (AB _) _).alloc (by simp) _;refine wpIn_rangeFunc_ownG rfl (by omega) (gf:=128) (lb:=#[.pointer (some ⟨w.heap.size+1,0,none⟩)]) rfl trivial (enters_of func128 (by kernel_rfl) rfl)
  (Ql (3-1) (by omega) (w.heap.size+1) w.heap.size M _ bN) (Kp:=Ew w.heap.size (w.heap.size+1)) M7 (fun W l o o' hl hlo hc hwk=>⟨belowK_b (w:=(w.alloc (.cells #[.slice none 0 0] 114)).alloc (.cells #[.int .i64 M] 22)) (by simp;omega) W l o o' hl hlo hc hwk,(grownBy_putObj' W l o').block _ (by have:=(Aa.1 hlo).1;simp at hl;omega) (fun e=>by cases e;rw[World.size_alloc,World.size_alloc]at hl;omega)⟩) (AC _ _) (by intro x;rfl)
  (fun pre W=>((∃v,Boxed W w.heap.size 114 v/\W.ownsRow w.heap.size 3 1 v pre.length (pre.map fun i:Nat=>Value.int .i64 (i:Int))/\True)/\Boxed W (w.heap.size+1) 22 (.int .i64 M))/\Wx w W)
  (fun _ _ _=>False)
  (OwnFrom.and (OwnFrom.and (Own.from (holdsRow_own w.heap.size w.heap.size 114 3 1 (fun pre:List Nat=>pre.length) (fun pre=>pre.map fun i:Nat=>Value.int .i64 (i:Int)) (fun _ _=>True)) _) (Own.from (boxed_own (w.heap.size+1) 22 (fun _=>.int .i64 M)) _)) (ownFrom_below (AB _) (by simp;omega)))
  (fun _ _ _ _ _ hs _ _=>hs)
  ⟨⟨⟨_,bO.alloc _,World.ownsRow_nil _ _ _ _,trivial⟩,bN⟩,hB0⟩
  (fun x=>{tmps:=#[.int .i64 M,undef,.slice none 0 0,.pointer (some ⟨w.heap.size,0,none⟩),.int .i64 (x:Int),.int .i64 M,.func (.func 128) #[] #[.pointer (some ⟨w.heap.size+1,0,none⟩)],.int .i64 (x:Int),undef,undef,undef,undef,undef],defers:=[]}) ?assign ?body ?done ?stop
 case assign=>
  intro l x W K hK
  gi_wp2
  exact hK
 case body=>
  rintro l pre x W ⟨⟨⟨v,hv,xP,_⟩,hm⟩,hB⟩ hlt;have hc:=hv.cell
  gi_wp2_with (gi_at_builtin;refine wpListIn_append_own _ rfl _ _ 114 rfl w.heap.size 3 i0 (.int .i64 0) 1 8 underlying114 hi hz0 hz1 hz2 rfl (by decide) _ _ _ rfl (xP.alloc _) ⟨W.heap.size,0,none⟩ 1 1 [.int .i64 (x:Int)] rfl rfl (cell_one_new _ _ _) (by simp[Value.oneCell']) (by unfold maxLen;omega) (by omega) (by have:=hB.size;simp;omega) ?_;intro v' w1 hCC hEN _;obtain⟨g',cap',rfl⟩:=ownsRow_succ hCC;obtain⟨hv1,hv2,hr2,hk2,hb2⟩:=hv.appended (by decide) xP hB.size (AB _) hCC hEN;have hc1:=hv1.cell;have hf1:=hv1.frozen)
  have hm1:Boxed w1 (w.heap.size+1) 22 (.int .i64 M):=(hm.alloc _).kept hEN (hm.not_row (by decide) xP);have hm2:=hm1.other (B':=w.heap.size) (by omega) (.slice (some ⟨g',0,none⟩) (pre.length+1) cap');exact⟨hk2.from _,⟨hb2,hm2.trans hm.symm⟩,⟨⟨_,hv2,by simpa using hr2,trivial⟩,hm2⟩,hB.trans hb2⟩
 case done=>
  rintro D ys W hD rfl ⟨⟨⟨v,hv,xP,_⟩,hm⟩,hB⟩ hK;have hc:=hv.cell
  gi_wp2
  refine⟨by simp,.inl ⟨_,_,rfl,run_takeDeferred hK,?_⟩⟩;exact⟨_,results_tmp rfl _ _ _,v,rfl,ownsRow_putObj xP _ hK rfl,hB.trans (belowK_b (w:=w) (AB _) W D _ _ (by simp at hD;omega) hK rfl rfl)⟩
 case stop=>
  rintro D c pre W _ _ h _;exact h.elim
end

def BX(pr:Vt->Bool)(l:List Vt):Nat:=l.foldl (fun m v=>if pr v=true then m|||2^v.signer.toNat else m) 0
theorem GX(pr:Vt->Bool)(l:List Vt)(v:Vt):BX pr (l++[v])=if pr v=true then BX pr l|||2^v.signer.toNat else BX pr l:=by
 simp[BX,List.foldl_append]
theorem Sn(pr:Vt->Bool):∀(l:List Vt) (m:Nat),m<1024->(∀v∈l,0<=v.signer/\v.signer<=9)->l.foldl (fun m v=>if pr v=true then m|||2^v.signer.toNat else m) m<1024
 |[],m,hm,_=>hm
 |v::r,m,hm,h=>by
  rw[List.foldl_cons];refine Sn pr r _ ?_ (fun u hu=>h u (List.mem_cons_of_mem _ hu));have hv:=h v Am;split
  ·exact JL m _ hm (by omega)
  ·exact hm
theorem Fa{pr:Vt->Bool}{l:List Vt}(h:∀v∈l,0<=v.signer/\v.signer<=9):BX pr l<1024:=Sn pr l 0 (by decide) h
theorem Pj(pr:Vt->Bool)(i:Nat):∀(l:List Vt) (m:Nat),(l.foldl (fun m v=>if pr v=true then m|||2^v.signer.toNat else m) m).testBit i=true↔m.testBit i=true∨∃v∈l,pr v=true/\v.signer.toNat=i
 |[],m=>by simp
 |v::r,m=>by
  rw[List.foldl_cons,Pj pr i r];by_cases hp:pr v=true
  ·rw[if_pos hp,Nat.testBit_or,Bool.or_eq_true,Nat.testBit_two_pow,decide_eq_true_eq,or_assoc];refine or_congr Iff.rfl ⟨?_,?_⟩
   ·rintro(h|⟨u,hu,h⟩)
    ·exact⟨v,Am,hp,h⟩
    ·exact⟨u,List.mem_cons_of_mem _ hu,h⟩
   ·rintro⟨u,hu,h⟩;rcases List.mem_cons.1 hu with rfl|hu
    ·exact .inl h.2
    ·exact .inr ⟨u,hu,h⟩
  ·rw[if_neg hp];simp[hp]
theorem Cg{pr:Vt->Bool}{l:List Vt}{i:Nat}:(BX pr l).testBit i=true↔∃v∈l,pr v=true/\v.signer.toNat=i:=by
 unfold BX;rw[Pj pr i l 0];simp
def Fb(l:List Nat):Nat:=l.foldl (fun m i=>m|||2^i) 0
theorem Pk(i:Nat):∀(l:List Nat) (m:Nat),(l.foldl (fun m i=>m|||2^i) m).testBit i=true↔m.testBit i=true∨i∈l
 |[],m=>by simp
 |j::r,m=>by
  rw[List.foldl_cons,Pk i r,Nat.testBit_or,Bool.or_eq_true,Nat.testBit_two_pow,decide_eq_true_eq,or_assoc,List.mem_cons];exact or_congr Iff.rfl (or_congr eq_comm Iff.rfl)
theorem GD{l:List Nat}{i:Nat}:(Fb l).testBit i=true↔i∈l:=by
 unfold Fb;rw[Pk i l 0];simp
theorem So:∀(l:List Nat) (m:Nat),m<1024->(∀i∈l,i<=9)->l.foldl (fun m i=>m|||2^i) m<1024
 |[],m,hm,_=>hm
 |j::r,m,hm,h=>by
  rw[List.foldl_cons];exact So r _ (JL m _ hm (h j Am)) (fun u hu=>h u (List.mem_cons_of_mem _ hu))
theorem Pn{l:List Nat}(h:∀i∈l,i<=9):Fb l<1024:=So l 0 (by decide) h
def CR(S k:Nat):Nat:=Fb ((CK S 10).take k)
theorem Dr(S k:Nat):CR S k<1024:=Pn (fun i hi=>by have:=(C9.1 (List.mem_of_mem_take hi)).1;omega)
end Go.Proofs.YtadllffeoibelaaGreat
