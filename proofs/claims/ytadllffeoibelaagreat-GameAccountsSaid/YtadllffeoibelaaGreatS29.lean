/-
  Parts of the proof. No condition.
-/
import Derived.ProofKit
import Derived.OpenShut
import Derived.Deep.Slices
import Derived.SizedLaws
import Derived.Test.YtadllffeoibelaaGreatS25
open Go.Proofs.Tryz
namespace Go.Proofs.YtadllffeoibelaaGreat
set_option maxRecDepth 100000
set_option maxHeartbeats 32000000
set_option linter.all false
section
open Go.ChangeShapes Go.WideShapes Go.ChangeAt Go.RowKit Go.Deep
theorem Xq:prog.cellsOf 5=1:=by kernel_rfl
theorem Pt:prog.cellsOf 3=1:=by kernel_rfl
theorem Q7:prog.cellsOf 22=1:=by kernel_rfl
theorem M3:prog.cellsOf 24=8:=by kernel_rfl
theorem Q8:prog.cellsOf 46=22:=by kernel_rfl
section
variable {H:Type}{enc:TypeId×Value->H}{w:World}{base:Nat}{spare:Nat->Bool}{held:Bool}
theorem WN{n:Int}(h:(Lit.int .u8 n).wf=true):.int .u8 n=B (UInt8.ofNat n.toNat):=by
 have hx:0<=n/\n<=255:=by simpa[Lit.wf,IntKind.min,IntKind.max,IntKind.signed,IntKind.bits]using h
 rw[Value.int.injEq];refine⟨rfl,?_⟩;simp;omega
theorem Xr{n:Int}(h:(Lit.int .i64 n).wf=true): -9223372036854775808<=n/\n<=9223372036854775807:=by
 simpa[Lit.wf,IntKind.min,IntKind.max,IntKind.signed,IntKind.bits]using h
theorem SG{fuel:Nat}{cs:List Value}{x:DataW H×List MemPlace}(h:DataW.trod enc prog w base spare held fuel 5 cs=some x):∃b:UInt8,cs=[B b]:=by
 obtain⟨n,rfl,_,hw⟩:=DataW.trod_int underlying5 h;exact⟨_,by rw[WN hw]⟩
theorem JK{fuel:Nat}{cs:List Value}{x:DataW H×List MemPlace}(h:DataW.trod enc prog w base spare held fuel 24 cs=some x):∃n:Nm,cs=[B n.b0,B n.b1,B n.b2,B n.b3,B n.b4,B n.b5,B n.b6,B n.b7]:=by
 obtain⟨xs,m,_,_,hlen,hx,hf⟩:=DataW.trod_array underlying24 h;rw[M3]at hlen;rw[Xq]at hf
 match cs,hlen with
 |[c0,c1,c2,c3,c4,c5,c6,c7],_=>
  have key:∀i,i<8->∃b:UInt8,(([c0,c1,c2,c3,c4,c5,c6,c7]:List Value).drop (i*1)).take 1=[B b]:=fun i hi=>by
   have:=hf i hi;rw[AD (by omega)]at this;exact SG this
  obtain⟨b0,h0⟩:=key 0 (by omega);obtain⟨b1,h1⟩:=key 1 (by omega);obtain⟨b2,h2⟩:=key 2 (by omega);obtain⟨b3,h3⟩:=key 3 (by omega);obtain⟨b4,h4⟩:=key 4 (by omega);obtain⟨b5,h5⟩:=key 5 (by omega);obtain⟨b6,h6⟩:=key 6 (by omega);obtain⟨b7,h7⟩:=key 7 (by omega);simp at h0 h1 h2 h3 h4 h5 h6 h7;exact⟨⟨b0,b1,b2,b3,b4,b5,b6,b7⟩,by simp[h0,h1,h2,h3,h4,h5,h6,h7]⟩
theorem SH{fuel:Nat}{cs:List Value}{x:DataW H×List MemPlace}(h:DataW.trod enc prog w base spare held fuel 46 cs=some x):∃v:Vt,cs=v.cells.toList/\v.ok:=by
 obtain⟨xs,m,_,_,hlen,hx,hf⟩:=DataW.trod_struct underlying46 h;rw[Q8]at hlen
 match cs,hlen with
 |[c0,c1,c2,c3,c4,c5,c6,c7,c8,c9,c10,c11,c12,c13,c14,c15,c16,c17,c18,c19,c20,c21],_=>
  have key:=fun i f (hi:_)=>(hf i f hi).trans (AD (show i<xs.length by rw[hx];exact(Aa.1 hi).1))
  obtain⟨k0,h0,_,_⟩:=DataW.trod_int underlying3 (key 0 _ rfl);obtain⟨k1,h1,_,_⟩:=DataW.trod_int underlying3 (key 1 _ rfl);obtain⟨k2,h2,_,_⟩:=DataW.trod_int underlying3 (key 2 _ rfl);obtain⟨k3,h3,_,_⟩:=DataW.trod_int underlying3 (key 3 _ rfl);obtain⟨k4,h4,_,_⟩:=DataW.trod_int underlying3 (key 4 _ rfl);obtain⟨k5,h5,_,w5⟩:=DataW.trod_int underlying22 (key 5 _ rfl);obtain⟨n6,h6⟩:=JK (key 6 _ rfl);obtain⟨n7,h7⟩:=JK (key 7 _ rfl);simp[Pt,Q7,M3]at h0 h1 h2 h3 h4 h5 h6 h7;refine⟨⟨k0,k1,k2,k3,k4,k5,n6,n7⟩,?_,Xr w5⟩;simp[h0,h1,h2,h3,h4,h5,h6,h7]
theorem J4{ts:List TypeId}{ds:List (DataW H)}(hw:∀k∈DataW.weightsEach prog ts ds,k<=reachBytes){j:Nat}{t:TypeId}{d:DataW H}(ht:ts[j]? =some t)(hd:ds[j]? =some d):∀k∈d.weights prog t,k<=reachBytes:=
 fun k hk=>hw k (DataW.weights_mem_each ht hd k hk)
theorem GM{e:TypeId}:∀{ds:List (DataW H)} {d:DataW H},d∈ds->∀k∈d.weights prog e,k∈DataW.weightsAll prog e ds
 |d0::r,d,hd,k,hk=>by
  rw[DataW.weightsAll,AP];rcases List.mem_cons.1 hd with rfl|h
  ·exact .inl hk
  ·exact .inr (GM h k hk)
theorem SI{α:Type}(f:α->List Value)(m:Nat)(ok:α->Prop){t e:TypeId}(ht:prog.underlying t=some (.slice e))(hm:prog.cellsOf e=m)(yF:0<m)(hII:∀(n:Nat) (cs:List Value) (x:DataW H×List MemPlace),DataW.trod enc prog w base spare held n e cs=some x->(∀k∈x.1.weights prog e,k<=reachBytes)->∃a,cs=f a/\ok a)(hf:∀a,(f a).length=m){fuel:Nat}{cs:List Value}{x:DataW H×List MemPlace}(h:DataW.trod enc prog w base spare held fuel t cs=some x)(hw:∀k∈x.1.weights prog t,k<=reachBytes):∃(A:Option Addr) (l:List α) (cap:Nat),cs=[.slice A l.length cap]/\Rd w w.heap.size A (l.flatMap f)/\(∀a∈l,ok a)/\l.length<=cap/\cap<=maxLen/\l.length*prog.bytesOf e<=reachBytes:=by
 rcases open_slice ht h with⟨rfl,_⟩|⟨a,len,cap,mm,n,D,Pl,rfl,_,hl,hmx,hmm,rfl,hi⟩
 ·exact⟨none,[],0,rfl,.inl rfl,by simp,AB _,Nat.zero_le _,by simp⟩
 ·have hle:len<=mm:=by rw[hmm];split <;> omega
  simp only[DataW.weights,ht]at hw;have hel:∀i,i<len->∃b:α,w.cells? base (a.add (i*m)) m=some (f b)/\ok b:=by
   intro i hi0;obtain⟨cs',hc,htr⟩:=hi i (by omega);rw[hm]at hc;obtain⟨b,rfl,hok⟩:=hII n cs' _ htr (fun k hk=>hw k (by
    rw[List.mem_cons,AP];refine .inr (.inl (GM (d:=D i) ?_ k hk));exact List.mem_map.2 ⟨i,List.mem_range.2 hi0,rfl⟩))
   exact⟨b,hc,hok⟩
  obtain⟨l,hll,hlp⟩:∃l:List α,l.length=len/\∀i b,l[i]? =some b->w.cells? base (a.add (i*m)) m=some (f b)/\ok b:=by
   clear hi hmm hw h hle hl
   induction len with
   |zero=>exact⟨[],rfl,by simp⟩
   |succ k ih=>
    obtain⟨l,h1,h2⟩:=ih (fun i hi0=>hel i (by omega));obtain⟨b,hb⟩:=hel k (by omega);refine⟨l++[b],by simp[h1],fun i c hc=>?_⟩;rcases Nat.lt_or_ge i k with hik|hik
    ·rw[List.getElem?_append_left (by omega)]at hc;exact h2 i c hc
    ·rw[List.getElem?_append_right (by omega),h1]at hc;have:i-k=0:=by
      rcases Nat.eq_zero_or_pos (i-k)with h0|h0
      ·exact h0
      ·rw[List.getElem?_eq_none (by simp;omega)]at hc;cases hc
     obtain rfl:i=k:=by omega
     rw[this]at hc;simp at hc;subst hc;exact hb
  refine⟨some a,l,cap,by rw[hll],?_,fun b hb=>?_,by omega,hmx,?_⟩
  ·by_cases h0:len=0
   ·exact .inl (by rw[AV (hll.trans h0)];rfl)
   ·obtain⟨b0,hb0⟩:∃b0,l[0]? =some b0:=⟨_,AD (by omega)⟩;obtain⟨_,hcl,hat⟩:=World.cells?_some (hlp 0 b0 hb0).1;have hc0:=hat 0 yF;rw[AD (by rw[hf];exact yF)]at hc0;obtain⟨bb,off,spot⟩:=a;have hIJ:spot=none:=by simpa[Addr.add]using World.cell?_spot hc0
    subst hIJ;refine .inr ⟨bb,off,rfl,?_,fun j u hu=>?_⟩
    ·exact block_lt_of_cell (by simpa[Addr.add]using hc0)
    ·have hjl:j<l.length*m:=by
      have:=(AE.1 hu).1;rwa[AY f m l (fun x _=>hf x)]at this
     have hdm:=Nat.div_add_mod j m;have hIK:j%m<m:=Nat.mod_lt _ yF;have hdiv:j/m<l.length:=(Nat.div_lt_iff_lt_mul yF).2 hjl;have hb:l[j/m]? =some l[j/m]:=AD hdiv;obtain⟨_,_,hat'⟩:=World.cells?_some (hlp _ _ hb).1;have hc:=hat' (j%m) hIK;rw[<-B4 f m l (fun x _=>hf x) (j/m) (j%m) _ hb hIK,show j/m*m+j%m=j from by rw[Nat.mul_comm];exact hdm,hu]at hc;rw[Addr.add_mid,Addr.add_mid,show off+j/m*m+j%m=off+j from by rw[Nat.add_assoc,Nat.mul_comm (j/m) m,hdm]]at hc;exact hc
  ·obtain⟨i,hi0⟩:=List.getElem?_of_mem hb;exact(hlp i b hi0).2
  ·have:=hw ((((List.range len).map D).length+((List.range (mm-len)).map fun j=>D (len+j)).length)*prog.bytesOf e) (BF ..);simp only[AX,List.length_range]at this;refine AG (Nat.mul_le_mul_right _ ?_) this;omega
end
end
section
open Go.ChangeShapes Go.WideShapes Go.ChangeAt Go.RowKit
variable {H:Type}{enc:TypeId×Value->H}{w:World}{base:Nat}{spare:TypeId->Bool}{held:Bool}
theorem Q9:prog.cellsOf 48=25:=by kernel_rfl
theorem Xs{cs xs:Array Value}{v:Value}(h:v= .agg cs)(hv:v.cells.toList=xs.toList):v= .agg xs:=by
 subst h;have:cs=xs:=by
  apply Array.toList_inj.1;simpa[Value.cells]using hv
 rw[this]
variable {H:Type}{enc:TypeId×Value->H}{w:World}{base:Nat}{spare:TypeId->Bool}{held:Bool}
theorem WO:prog.cellsOf 26=11:=by kernel_rfl
theorem Pu{fuel:Nat}{cs:List Value}{x:DataW H×List MemPlace}(h:DataW.trod enc prog w base spare held fuel 48 cs=some x):∃s:Stp,cs=stc s/\s.vote.ok:=by
 obtain⟨xs,m,_,_,hlen,hx,hf⟩:=DataW.trod_struct underlying48 h;rw[Q9]at hlen
 match cs,hlen with
 |[c0,c1,c2,c3,c4,c5,c6,c7,c8,c9,c10,c11,c12,c13,c14,c15,c16,c17,c18,c19,c20,c21,c22,c23,c24],_=>
  have key:=fun i f (hi:_)=>(hf i f hi).trans (AD (show i<xs.length by rw[hx];exact(Aa.1 hi).1))
  obtain⟨k0,h0,_,_⟩:=DataW.trod_int underlying3 (key 0 _ rfl);obtain⟨k1,h1,_,_⟩:=DataW.trod_int underlying3 (key 1 _ rfl);obtain⟨k2,h2,_,_⟩:=DataW.trod_int underlying3 (key 2 _ rfl);obtain⟨v,h3,hv⟩:=SH (key 3 _ rfl);simp[Pt,Q8]at h0 h1 h2 h3;refine⟨⟨k0,k1,k2,v⟩,?_,hv⟩;simp[h0,h1,h2,h3]
theorem UL{fuel:Nat}{cs:List Value}{x:DataW H×List MemPlace}(h:DataW.trod enc prog w base spare held fuel 26 cs=some x):∃s:Cfg,cs=s.cells.toList:=by
 obtain⟨xs,m,_,_,hlen,hx,hf⟩:=DataW.trod_struct underlying26 h;rw[WO]at hlen
 match cs,hlen with
 |[c0,c1,c2,c3,c4,c5,c6,c7,c8,c9,c10],_=>
  have key:=fun i f (hi:_)=>(hf i f hi).trans (AD (show i<xs.length by rw[hx];exact(Aa.1 hi).1))
  obtain⟨k0,h0,_,_⟩:=DataW.trod_int underlying3 (key 0 _ rfl);obtain⟨k1,h1,_,_⟩:=DataW.trod_int underlying22 (key 1 _ rfl);obtain⟨k2,h2,_,_⟩:=DataW.trod_int underlying22 (key 2 _ rfl);obtain⟨s,h3⟩:=JK (key 3 _ rfl);simp[Pt,Q7,M3]at h0 h1 h2 h3;refine⟨⟨k0,k1,k2,s⟩,?_⟩;simp[h0,h1,h2,h3]
end
end Go.Proofs.YtadllffeoibelaaGreat
