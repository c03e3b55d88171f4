/-
  Parts of the proof. No condition.
-/
import Derived.Test.YtadllffeoibelaaGreatS3
open Go.Proofs.Tryz
namespace Go.Proofs.YtadllffeoibelaaGreat
set_option maxRecDepth 100000
set_option maxHeartbeats 32000000
set_option linter.all false
section
open Go.RowKit
open Go.ChangeMaps (setBlock)
section
variable {κ:Type}{enc:κ->Value}{w w':World}{m r cnt b:Nat}{l:List (κ×Value)}{P:Program}{kt:TypeId}{k:κ}
theorem LK[DecidableEq κ](k:κ)(u v:Value):∀l,CJ k v (CJ k u l)=CJ k v l
 |[]=>by simp[CJ]
 |p::r=>by
  by_cases h:k=p.1
  ·rw[CJ,if_pos h,CJ,if_pos rfl,CJ,if_pos h]
  ·rw[CJ,if_neg h,CJ,if_neg h,LK k u v r,CJ,if_neg h]
def KR[DecidableEq κ](enc:κ->Value)(w:World)(m:Nat)(l:List (κ×Value))(k:κ)(b:Nat):Prop:=
 ∃(es:Array MapEntry) (clock i:Nat) (e:MapEntry),w.heap[m]? =some (.map es clock)/\es.toList.map (fun e=>(e.key,e.val))=l.map (fun p=>(enc p.1,p.2))/\(es.toList.map (·.born)).Nodup/\(∀e∈es.toList,e.born<clock)/\es[i]? =some e/\e.born=b/\i<l.length/\∀v,CJ k v l=l.set i (k,v)
variable [DecidableEq κ]
theorem KR.isB(h:KR enc w m l k b):Bj enc w m l:=by
 obtain⟨es,c,i,e,h1,h2,h3,h4,_⟩:=h;exact⟨es,c,h1,h2,h3,h4⟩
theorem Bj.entryX(h:Bj enc w m l)(K:Fd P kt enc){t e:TypeId}(ht:P.underlying t=some (.map kt e))(z:Value)(hz:∀w,(zeroValue e).run P w= .ok z w)(k:κ):∃(w':World) (b:Nat) (v:Value) (l':List (κ×Value)),(Instr.mapEntry t (.map (some m)) (enc k)).run P w= .ok (.tuple #[v,goInt (b:Int)]) w'/\KR enc w' m l' k b/\(∀k',BR k' l'=if k'=k then some ((BR k l).getD z)else BR k' l)/\(∀p∈l',p∈l∨p=(k,z))/\l'.length<=l.length+1/\w.grownBy w' (some m)/\w'.heap.size=w.heap.size:=by
 obtain⟨es,c,h1,h2,h3,h4⟩:=h;have hlt:=(Aa.1 h1).1;have put:∀o:Obj,({w with heap:=w.heap.setIfInBounds m o}:World).heap[m]? =some o:=fun o=>by simp[hlt]
 have gr:∀o:Obj,w.grownBy {w with heap:=w.heap.setIfInBounds m o} (some m):=fun o=>⟨rfl,rfl,rfl,by simp,fun i hi hne=>by
  have:m≠i:=fun e=>hne (by rw[e])
  simp[this]⟩
 have xQ:es.size=l.length:=by
  have:=congrArg List.length h2;simpa using this
 unfold Instr.mapEntry;simp only[Sem.run_bind,run_underlying ht,Result.andThen_ok,MapKept.run_getObj_map h1,K.check,EZ K k w es.toList l h2];rcases EH K k w es.toList l 0 h2 with⟨a1,a2,a3⟩|⟨j,u,b1,⟨e',b2,b3,b4⟩,b5,b6,b7⟩
 ·rw[a3];simp only[Result.andThen_ok,Sem.run_bind,hz];rw[MapKept.run_setObj_map _ h1];refine⟨_,c,z,l++[(k,z)],rfl,⟨_,_,es.size,⟨enc k,z,c⟩,put _,?_,?_,?_,by simp,rfl,by rw[xQ,AI];simp,?_⟩,?_,?_,by simp,gr _,by simp⟩
  ·simp[h2]
  ·rw[Array.toList_push,Ad,List.nodup_append];refine⟨h3,by simp,?_⟩;intro x hx y hy;obtain⟨e1,he1,rfl⟩:=List.mem_map.1 hx;simp only[List.map_cons,List.map_nil,AM]at hy;have:=h4 e1 he1;omega
  ·intro x hx;rw[Array.toList_push]at hx;rcases AP.1 hx with hx|hx
   ·have:=h4 x hx;omega
   ·rw[AM.1 hx];exact Nat.lt_succ_self c
  ·intro v;rw[<-a2 z,LK,a2 v,a2 z,xQ,List.set_append_right _ _ (AB _),Nat.sub_self];rfl
  ·intro k';rw[<-a2 z,Cs,a1];rfl
  ·intro p hp;rcases AP.1 hp with hp|hp
   ·exact .inl hp
   ·exact .inr (AM.1 hp)
 ·rw[b7];simp only[Result.andThen_ok,Sem.run_bind,Nat.zero_add];have he:es[j]? =some e':=by rw[<-Array.getElem?_toList];exact b2
  have hs:(Instr.keyThatStays (((es[j]?).map (·.key)).getD (enc k)) (enc k)).run P w= .ok (enc k) w:=by
   rw[he];unfold Instr.keyThatStays;simp only[Option.map_some,Option.getD_some,b3,K.bits,if_true];rfl
  rw[hs];simp only[Result.andThen_ok];rw[MapKept.run_setObj_map _ h1];have hk:(l[j]?).map (fun p=>(enc p.1,p.2))=some (enc k,u):=by
   have h5:=congrArg (fun x=>x[j]?) h2;simp only[AV,b2,Option.map_some,b3,b4]at h5;exact h5.symm
  refine⟨_,e'.born,u,l,?_,⟨es.modify j fun e=>{e with key:=enc k},c,j,{e' with key:=enc k},put _,?_,?_,?_,by rw[Array.getElem?_modify,if_pos rfl,he];rfl,rfl,b6,b5⟩,?_,fun p hp=>.inl hp,by omega,gr _,by simp⟩
  ·simp[Result.andThen,he]
  ·apply List.ext_getElem?;intro i;have h6:=congrArg (fun x=>x[i]?) h2;simp only[AV,Array.getElem?_toList]at h6 ⊢;rw[Array.getElem?_modify];by_cases hij:j=i
   ·subst hij;rw[if_pos rfl,hk,he];simp[b4]
   ·rw[if_neg hij,h6]
  ·rw[DH es j (fun e=>{e with key:=enc k}) (fun _=>rfl)];exact h3
  ·intro x hx;have hb:x.born∈(es.toList.map (·.born)):=by
    rw[<-DH es j (fun e=>{e with key:=enc k}) (fun _=>rfl)];exact List.mem_map.2 ⟨x,hx,rfl⟩
   obtain⟨y,hy,hyb⟩:=List.mem_map.1 hb;rw[<-hyb];exact h4 y hy
  ·intro k';by_cases hk':k'=k
   ·rw[if_pos hk',hk',b1];rfl
   ·rw[if_neg hk']
theorem KR.store(h:KR enc w m l k b)(t:TypeId)(v:Value):∃(w':World),(Instr.entryStore t (.map (some m)) (goInt (b:Int)) v).run P w= .ok () w'/\Bj enc w' m (CJ k v l)/\(∀p∈CJ k v l,p∈l∨p=(k,v))/\(CJ k v l).length=l.length/\w.grownBy w' (some m)/\w'.heap.size=w.heap.size:=by
 obtain⟨es,c,i,e,h1,h2,h3,h4,h5,rfl,h7,h8⟩:=h;have hlt:=(Aa.1 h1).1;have put:∀o:Obj,({w with heap:=w.heap.setIfInBounds m o}:World).heap[m]? =some o:=fun o=>by simp[hlt]
 have gr:∀o:Obj,w.grownBy {w with heap:=w.heap.setIfInBounds m o} (some m):=fun o=>⟨rfl,rfl,rfl,by simp,fun i hi hne=>by
  have:m≠i:=fun e=>hne (by rw[e])
  simp[this]⟩
 have hkey:=Qr k i l h8 h7;obtain⟨p,hp,hpk⟩:=Option.map_eq_some_iff.1 hkey;have hf:es.findIdx? (fun x=>(x.born:Int)==(e.born:Int))=some i:=by
  have:=Gb es.toList i e h3 (by rw[Array.getElem?_toList];exact h5);rw[<-List.findIdx?_toArray]at this;simpa using this
 have ha:∀W:World,(asInt (goInt (e.born:Int))).run P W= .ok (e.born:Int) W:=fun _=>rfl
 unfold Instr.entryStore;simp only[Sem.run_bind,MapKept.run_getObj_map h1,Result.andThen_ok,ha,hf];rw[h8 v];refine⟨_,MapKept.run_setObj_map _ h1,⟨_,_,put _,?_,?_,?_⟩,?_,by simp,gr _,by simp⟩
 ·apply List.ext_getElem?;intro j;have h6:=congrArg (fun x=>x[j]?) h2;simp only[AV,Array.getElem?_toList]at h6 ⊢;rw[Array.getElem?_modify,List.getElem?_set];by_cases hij:i=j
  ·subst hij;rw[h5,hp]at h6;simp only[Option.map_some,Option.some.injEq,Prod.mk.injEq]at h6;rw[if_pos rfl,if_pos rfl,if_pos h7,h5];simp[h6.1,hpk]
  ·simp[hij,h6]
 ·rw[DH es i (fun e=>{e with val:=v}) (fun _=>rfl)];exact h3
 ·intro x hx;have hb:x.born∈(es.toList.map (·.born)):=by
   rw[<-DH es i (fun e=>{e with val:=v}) (fun _=>rfl)];exact List.mem_map.2 ⟨x,hx,rfl⟩
  obtain⟨y,hy,hyb⟩:=List.mem_map.1 hb;rw[<-hyb];exact h4 y hy
 ·intro q hq;rcases List.mem_or_eq_of_mem_set hq with h|h
  ·exact .inl h
  ·exact .inr h
end
section
variable {κ:Type}{enc:κ->Value}{w w':World}{m r cnt:Nat}{l:List (κ×Value)}{P:Program}{vis vis':κ×Value->Prop}
def C5(enc:κ->Value)(w:World)(m r:Nat)(l:List (κ×Value))(cnt:Nat)(vis:κ×Value->Prop):Prop:=
 ∃es clock since c0 seen,w.heap[m]? =some (.map es clock)/\w.heap[r]? =some (.mapIter (some m) since seen c0)/\es.toList.map (fun e=>(e.key,e.val))=l.map (fun p=>(enc p.1,p.2))/\(es.toList.map (·.born)).Nodup/\(∀e∈es.toList,e.born<since)/\since<=c0/\since<=clock/\cnt=(leftOf es seen).size/\
  ∀(i:Nat) (e:MapEntry) (p:κ×Value),es.toList[i]? =some e->l[i]? =some p->seen.contains e.born=true->vis p
theorem C5.rng(h:C5 enc w m r l cnt vis):Rng enc w m r l cnt:=by
 obtain⟨es,c,s,c0,seen,h1,h2,h3,h4,h5,h6,h7,h8,_⟩:=h;exact⟨es,c,s,c0,seen,h1,h2,h3,h4,h5,h6,h7,h8⟩
theorem C5.mono(h:C5 enc w m r l cnt vis)(hv:∀p,vis p->vis' p):C5 enc w m r l cnt vis':=by
 obtain⟨es,c,s,c0,seen,h1,h2,h3,h4,h5,h6,h7,h8,h9⟩:=h;exact⟨es,c,s,c0,seen,h1,h2,h3,h4,h5,h6,h7,h8,fun i e p a b d=>hv p (h9 i e p a b d)⟩
theorem C5.kept{row:Option Nat}(h:C5 enc w m r l cnt vis)(hg:w.grownBy w' row)(hm:some m≠row)(hr:some r≠row):C5 enc w' m r l cnt vis:=by
 have hl:=h.rng.lt;have hl2:=h.rng.mlt;obtain⟨es,c,s,c0,seen,h1,h2,h3⟩:=h;exact⟨es,c,s,c0,seen,(hg.block m hl2 hm).trans h1,(hg.block r hl hr).trans h2,h3⟩
theorem C5.below(h:C5 enc w m r l cnt vis)(hb:Wx w w'):C5 enc w' m r l cnt vis:=by
 have hl:=h.rng.lt;have hl2:=h.rng.mlt;obtain⟨es,c,s,c0,seen,h1,h2,h3⟩:=h;exact⟨es,c,s,c0,seen,(hb.block m hl2).trans h1,(hb.block r hl).trans h2,h3⟩
theorem C5.alloc(h:C5 enc w m r l cnt vis)(o:Obj):C5 enc (w.alloc o) m r l cnt vis:=h.below ((AC _ _).alloc (AB _) _)
theorem Bj.rangeV(h:Bj enc w m l){t k e:TypeId}(ht:P.underlying t=some (.map k e))(vis:κ×Value->Prop):∃o cnt,(Instr.range t (.map (some m))).run P w= .ok (.pointer (some ⟨w.heap.size,0,none⟩)) (w.alloc o)/\C5 enc (w.alloc o) m w.heap.size l cnt vis:=by
 have hl:=h.is.lt;obtain⟨es,c,h1,h2,h3,h4⟩:=h;exact⟨_,_,run_range_map w t k e m es c ht h1,es,c,c,c,#[],(Below.heap_alloc w _ m hl).trans h1,heap_alloc_new w _,h2,h3,h4,AB _,AB _,rfl,fun i e p _ _ h=>by simp at h⟩
theorem C5.next(h:C5 enc w m r l cnt vis)(ty:TypeId):((Instr.next (.pointer (some ⟨r,0,none⟩)) false ty).run P w= .ok (.tuple #[.bool false]) w/\∀p∈l,vis p)∨∃k v w' cnt',(k,v)∈l/\(Instr.next (.pointer (some ⟨r,0,none⟩)) false ty).run P w= .ok (.tuple #[.bool true,enc k,v]) w'/\C5 enc w' m r l cnt' (fun p=>vis p∨p=(k,v))/\cnt'<cnt/\w.grownBy w' (some r)/\w'.heap.size=w.heap.size/\(Instr.entry (.pointer (some ⟨r,0,none⟩))).run P w'= .ok (.tuple #[enc k,v]) w':=by
 have hrl:=h.rng.lt;obtain⟨es,c,s,c0,seen,h1,h2,h3,h4,h5,h6,h7,h8,hv⟩:=h;have hmr:m≠r:=fun e=>by rw[e,h2]at h1;cases h1
 rcases run_next_at (P:=P) w ty r m s c0 seen es c h2 h1 h5 h6 with⟨h0,xK⟩|⟨e,he,w1,hal,xK⟩
 ·refine .inl ⟨xK,fun p hp=>?_⟩;obtain⟨i,hi⟩:=List.mem_iff_getElem?.1 hp;have h9:=congrArg (fun x=>x[i]?) h3;simp only[AV,hi,Option.map_some]at h9;obtain⟨e,he,_⟩:=Option.map_eq_some_iff.1 h9;exact hv i e p he hi (all_seen es seen h0 e (AN he))
 ·have yM:=mem_left he;obtain⟨i,hi⟩:=List.mem_iff_getElem?.1 yM.1;have h9:=congrArg (fun x=>x[i]?) h3;simp only[AV,hi,Option.map_some]at h9;obtain⟨p,hp,hpe⟩:=Option.map_eq_some_iff.1 h9.symm;injection hpe with e1 e2
  obtain⟨w2,hw2⟩:=Wr (setBlock w1 r (.mapIter (some m) s (seen.push e.born) c));rw[<-hw2]at xK;have hs1:w1.heap=w.heap:=by rcases hal with rfl|rfl <;> rfl
  have hr2:w2.heap[r]? =some (.mapIter (some m) s (seen.push e.born) c):=by rw[hw2];simp[setBlock,hs1,hrl]
  have hm2:w2.heap[m]? =some (.map es c):=by rw[hw2];simp[setBlock,hs1,Ne.symm hmr,h1]
  refine .inr ⟨p.1,p.2,w2,_,AN hp,?_,⟨es,c,s,c,seen.push e.born,hm2,hr2,h3,h4,h5,h7,h7,rfl,?_⟩,?_,?_,?_,?_⟩
  ·rw[xK,e1,e2]
  ·intro j e' p' he' hp' hc;rw[contains_push,Bool.or_eq_true]at hc;rcases hc with hc|hc
   ·exact .inl (hv j e' p' he' hp' hc)
   ·right;have hbb:e'.born=e.born:=by simpa using hc
    have hij:j=i:=by
     have ha:(es.toList.map (·.born))[j]? =some e.born:=by rw[AV,he',<-hbb];rfl
     have hb:(es.toList.map (·.born))[i]? =some e.born:=by rw[AV,hi];rfl
     exact(List.getElem?_inj (AF.1 ha).1 h4).1 (ha.trans hb.symm)
    subst hij;rw[hp]at hp';exact(Option.some.inj hp').symm
  ·rw[h8];exact left_shrinks es seen e he
  ·refine⟨?_,?_,?_,?_,fun i hi hne=>?_⟩
   ·rw[hw2];rcases hal with rfl|rfl <;> rfl
   ·rw[hw2];rcases hal with rfl|rfl <;> rfl
   ·rw[hw2];rcases hal with rfl|rfl <;> rfl
   ·rw[hw2];simp[setBlock,hs1]
   ·have:r≠i:=fun e=>hne (by rw[e])
    rw[hw2];simp[setBlock,hs1,this]
  ·rw[hw2];simp[setBlock,hs1]
  ·rw[e1,e2];exact run_entry_at w2 r m s seen es c e hr2 hm2 yM.1 h4
end
section
variable {κ:Type}{enc:κ->Value}{P:Program}(w:World){ops:Array Oper}{rest:List Oper}{o:Oper}{a:Act}{Q:Exit->Act->World->Prop}
theorem DY(hg:o.guard=none)(mo:Operand)(t:TypeId)(hop:o.op=Op.range t mo)(k e:TypeId)(ht:P.underlying t=some (.map k e))(m:Nat)(l:List (κ×Value))(hm:a.eval mo= .map (some m))(h:Bj enc w m l)(vis:κ×Value->Prop)(hK:∀o' cnt,C5 enc (w.alloc o') m w.heap.size l cnt vis->wpList P ops Q rest (a.put o.dst (.pointer (some ⟨w.heap.size,0,none⟩))) (w.alloc o')):wpList P ops Q (o::rest) a w:=by
 refine wpList_plain hg fun K' hK'=>?_
 obtain⟨o',cnt,xK,hr⟩:=h.rangeV ht vis;unfold Oper.wp;simp[execOp,hop,hm,xK,Result.andThen];exact hK' _ _ (hK o' cnt hr)
theorem Dm(hg:o.guard=none)(it:Operand)(hop:o.op=Op.next it false)(m r cnt:Nat)(l:List (κ×Value))(vis:κ×Value->Prop)(hit:a.eval it= .pointer (some ⟨r,0,none⟩))(h:C5 enc w m r l cnt vis)(hHV:(∀p∈l,vis p)->wpList P ops Q rest (a.put o.dst (.tuple #[.bool false])) w)(hHW:∀k v w' cnt',(k,v)∈l->C5 enc w' m r l cnt' (fun p=>vis p∨p=(k,v))->cnt'<cnt->w.grownBy w' (some r)->w'.heap.size=w.heap.size->(Instr.entry (.pointer (some ⟨r,0,none⟩))).run P w'= .ok (.tuple #[enc k,v]) w'->wpList P ops Q rest (a.put o.dst (.tuple #[.bool true,enc k,v])) w'):wpList P ops Q (o::rest) a w:=by
 refine wpList_plain hg fun K' hK'=>?_
 unfold Oper.wp;rcases h.next (P:=P) o.type with⟨xK,hd⟩|⟨k,v,w',cnt',yM,xK,hr,hlt,hgr,hsz,hen⟩
 ·simp[execOp,hop,hit,xK,Result.andThen];exact hK' _ _ (hHV hd)
 ·simp[execOp,hop,hit,xK,Result.andThen];exact hK' _ _ (hHW k v w' cnt' yM hr hlt hgr hsz hen)
end
end
section
open Go.RowKit
attribute [local go_sem ↓] Go.wp_at_zero Go.wp_at_succ Aq
attribute [local go_sem] BE AR AX AU
abbrev CH(s:Nm)(m:Nat):Array Value:=#[B s.b0,B s.b1,B s.b2,B s.b3,B s.b4,B s.b5,B s.b6,B s.b7,I 2,.map (some m)]
def L5(w:World)(s:Nm)(e:Ending)(w':World):Prop:=
 ∃h m,e= .returned (.pointer (some ⟨h,0,none⟩))/\w.heap.size<=h/\w.heap.size<=m/\h≠m/\Blk w' h 152 (CH s m)/\w'.heap[m]? =some (.map #[] 0)/\Wx w w'
theorem OT(s:Nm)(w:World):Calls prog 51 #[s.val,.int .i64 2] w (L5 w s):=by
 have hx:AK (w.alloc (.cells s.cells 24)) w.heap.size 0 8=some s.cells:=(Blk.new w _ _).row 8 rfl;have hmk:∀W:World,(Instr.makeMap 150 none).run prog W= .ok (.map (some W.heap.size)) (W.alloc (.map #[] 0)):=fun W=>rfl
 go_enter func51,ntmps51;go_wp2_with (go_at_call 78;refine(Fz _).mono ?_;rintro en w2 ⟨rfl,rfl⟩)
 go_ret;refine⟨w.heap.size+2,w.heap.size+1,rfl,by omega,by omega,by omega,?_,?_,(((AC _ _).alloc (AB _) _).alloc (by simp) _).alloc (by simp;omega) _⟩
 ·have:=Blk.new ((w.alloc (.cells s.cells 24)).alloc (.map #[] 0)) 152 (CH s (w.heap.size+1));simpa using this
 ·have h1:=heap_alloc_new (w.alloc (.cells s.cells 24)) (.map #[] 0);have h2:=Below.heap_alloc ((w.alloc (.cells s.cells 24)).alloc (.map #[] 0)) (.cells (CH s (w.heap.size+1)) 152) (w.heap.size+1) (by simp);rw[show(w.alloc (.cells s.cells 24)).heap.size=w.heap.size+1 from by simp]at h1;exact h2.trans h1
theorem LL(s:Nm)(h m:Nat)(w:World)(hB:Blk w h 152 (CH s m)):Calls prog 90 #[.pointer (some ⟨h,0,none⟩)] w fun e w'=>e= .returned (.bool true)/\w'=w:=by
 have c9:w.cell? ⟨h,9,none⟩=some (.map (some m)):=hB.cell 9;clear hB;have hne:∀W,(binOp .neq 150 (.map (some m)) (.map none)).run prog W= .ok (.bool true) W:=fun W=>by first|rfl|kernel_rfl|(simp[binOp];rfl)
 go_enter func90,ntmps90;go_wp2;go_ret;exact⟨rfl,rfl⟩
end
section
open Go.RowKit
def KS(seed:Nm)(c:Nat):Nm:=D3 (32::(seed.bytes++[UInt8.ofNat c]))
def EU(seed:Nm)(c:Nat):Nm:=Fy (KS seed c) c 0 15
def Sp(seed:Nm):Nm:=VC ((List.range 18).map (EU seed))
def GY(seed m:Nm)(c:Nat):Nm:=Fy (KS seed c) c 0 ((Fx m).getD c 0)
def KT(seed m:Nm):List Nm:=(List.range 18).map (GY seed m)
def M8(s:Nm)(level number j:Nat):Nm:=D3 (48::(s.bytes++[UInt8.ofNat level,UInt8.ofNat (number/256),UInt8.ofNat number,UInt8.ofNat j]))
def Im(s:Nm)(level number j:Nat):Nm:=Sp (M8 s level number j)
def Ek(s:Nm)(level number:Nat):List Nm:=(List.range 32).map (Im s level number)
def GE:Nat->List Nm->Nm
 |0,l=>WE (l.getD 0 Nm.zero)
 |d+1,l=>WB 18 (GE d (l.take (2^d))) (GE d (l.drop (2^d)))
def GF:Nat->Nat->List Nm->List Nm
 |0,_,_=>[]
 |d+1,i,l=>if i<2^d then GF d i (l.take (2^d))++[GE d (l.drop (2^d))]else GF d (i-2^d) (l.drop (2^d))++[GE d (l.take (2^d))]
def IQ(s:Nm)(level number j:Nat)(m:Nm):List UInt8:=(KT (M8 s level number j) m++GF 5 j (Ek s level number)).flatMap Nm.bytes
def Ex(s:Nm)(leaf:Nat)(m:Nm):List UInt8:=
 [UInt8.ofNat (leaf/256),UInt8.ofNat leaf]++IQ s 1 (leaf/32) (leaf%32) m++IQ s 2 0 (leaf/32) (GE 5 (Ek s 1 (leaf/32)))
theorem KU(seed m:Nm):(KT seed m).length=18:=by simp[KT]
theorem LM(s:Nm)(level number:Nat):(Ek s level number).length=32:=by simp[Ek]
theorem Dn:∀(d i:Nat) (l:List Nm),(GF d i l).length=d
 |0,_,_=>rfl
 |d+1,i,l=>by
  rw[GF];split <;> simp[Dn d]
theorem OU(l:List Nm):(l.flatMap Nm.bytes).length=8*l.length:=by
 induction l with
 |nil=>rfl
 |cons a r ih=>rw[List.flatMap_cons,AI,ih,Ag];simp[Nm.bytes];omega
theorem LN(s:Nm)(level number j:Nat)(m:Nm):(IQ s level number j m).length=184:=by
 rw[IQ,OU,AI,KU,Dn]
theorem KV(s:Nm)(leaf:Nat)(m:Nm):(Ex s leaf m).length=370:=by
 rw[Ex,AI,AI,LN,LN];rfl
theorem KW(s r:Nm)(c:Nat)(w:World)(hc:c<=255)(hr:KS s c=r):Calls prog 189 #[s.val,.int .i64 (c:Int)] w (BW w r):=by
 obtain⟨i0,hi,hz0,hz1,hz2⟩:=info_parts Bz;have hr2:D3 (32::(s.bytes++[UInt8.ofNat c]))=r:=hr;have Hr:=AA hr2;clear hr hr2;have hb1:=J2 c hc;generalize UInt8.ofNat c=b1 at*;have HB1:=AA hb1;clear hb1;go_enter func189,ntmps189;go_upto_region 1 with fail
 have hX:Blk ((w.alloc (Obj.cells s.cells 24)).alloc (Obj.cells BG 24)) w.heap.size 24 s.cells:=(Blk.new w _ _).alloc _;have hR:Blk ((w.alloc (Obj.cells s.cells 24)).alloc (Obj.cells BG 24)) (w.heap.size+1) 24 BG:=by
  have:=Blk.new (w.alloc (Obj.cells s.cells 24)) 24 BG;simpa using this
 have hb:Wx w ((w.alloc (Obj.cells s.cells 24)).alloc (Obj.cells BG 24)):=((AC _ _).alloc (AB _) _).alloc (by simp) _;generalize ((w.alloc (Obj.cells s.cells 24)).alloc (Obj.cells BG 24))=wr at*;have hDC:=hX.lt;go_wp2_with (at_builtin;refine wpList_append_grows _ rfl (.tmp 5) (.tmp 8) _ rfl 5 i0 (.int .u8 0) 1 1 underlying60 hi hz0 hz1 hz2 rfl (by decide) (some ⟨w.heap.size,0,none⟩) 8 8 (s.bytes.map B) rfl ?r0 rfl ?r1 ⟨wr.heap.size,0,none⟩ 1 1 [B b1] rfl rfl ?r2 ?r3 ?r4 ?r5 ?r6 ?_)
 case r0=>intro h;cases h
 case r1=>
  intro b hbe j u hu;injection hbe with hbe;subst hbe
  rw[Addr.add_mid,Nat.zero_add,(hX.alloc _).cell];simpa[Nm.bytes]using hu
 case r2=>
  intro j u hu;rw[Addr.add_mid,Nat.zero_add,(Blk.new wr _ _).cell,<-hu,HB1.out];simp
 case r3=>intro u hu;simp at hu;rcases hu with rfl;rfl
 case r4=>omega
 case r5=>unfold maxLen;omega
 case r6=>omega
 intro v2 w2 xG hg2;have hR2:=(hR.alloc _).kept hg2 (by simp);have hb2:=Di (hb.alloc hb.size _) hg2;have e:s.bytes.map B++[B b1]=(s.bytes++[b1]).map B:=by simp
 rw[e]at xG;obtain⟨A2,c2,rfl⟩:=BD xG;have xN:Calls prog 50 #[.int .u8 32,.slice A2 (8+1) c2] w2 (BW w2 r):=CB 32 A2 c2 (s.bytes++[b1]) r w2 (Rd.of_own xG) (by simp[Nm.bytes]) Hr.out;have HC:=AA xN;clear xN e xG hg2 hX hR hb;go_wp2_with fail
 refine HC.out.mono ?_;rintro en w3 ⟨rfl,hb3⟩;have hR3:=hR2.below hb3 hR2.lt;have xT:=hb2.trans (hb3.mono hb2.size);clear hR2 hb2 hb3 HC;go_wp2_with (refine AJ rfl 24 (.tmp 4) (.tmp 10) rfl (w.heap.size+1) _ rfl rfl 24 _ hR3 rfl Ap ?s2 ?_)
 case s2=>exact⟨rfl,rfl,rfl,rfl,rfl,rfl,rfl,rfl⟩
 intro w4 hR4 hg4 hs4;have xI:Wx w w4:=xT.grown hg4 xT.size (by rintro j ⟨⟩;omega);go_wp2;exact bodyPost_ret (results_cell_row (g:=w.heap.size+1) rfl _ _ _ _ _ _ rfl hR4 underlying24 rfl Ap) rfl ⟨rfl,xI⟩
theorem Ey{α:Type}(f:Nat->α)(k:Nat):(List.range (k+1)).map f=(List.range k).map f++[f k]:=by simp[List.range_succ]
theorem L6(s r:Nm)(w:World)(hr:Sp s=r):Calls prog 139 #[s.val] w (BW w r):=by
 obtain⟨Z,hZ⟩:=Wr (Array.replicate 144 (Value.int .u8 0));have hmk:∀W:World,(Instr.makeSlice 75 (.int .i64 18) (.int .i64 18)).run prog W= .ok (.slice (some ⟨W.heap.size,0,none⟩) 18 18) (W.alloc (.cells Z 24)):=fun W=>by rw[hZ];kernel_rfl
 have HZ:Hid (Z.size=8*18):=by rw[hZ];exact Array.size_replicate
 have Hr:=AA hr;clear hZ hr;go_enter func139,ntmps139;go_upto_region 2 with fail
 clear hmk;have hX:Blk (((w.alloc (Obj.cells s.cells 24)).alloc (Obj.cells BG 24)).alloc (Obj.cells Z 24)) w.heap.size 24 s.cells:=((Blk.new w _ _).alloc _).alloc _;have hR:Blk (((w.alloc (Obj.cells s.cells 24)).alloc (Obj.cells BG 24)).alloc (Obj.cells Z 24)) (w.heap.size+1) 24 BG:=by
  have:=(Blk.new (w.alloc (Obj.cells s.cells 24)) 24 BG).alloc (Obj.cells Z 24);simpa using this
 have hN:Bb (((w.alloc (Obj.cells s.cells 24)).alloc (Obj.cells BG 24)).alloc (Obj.cells Z 24)) (w.heap.size+1+1) 18 []:=by
  have:=Bb.zero ((w.alloc (Obj.cells s.cells 24)).alloc (Obj.cells BG 24)) Z 18 HZ.out;simpa using this
 have hbW:Wx w (((w.alloc (Obj.cells s.cells 24)).alloc (Obj.cells BG 24)).alloc (Obj.cells Z 24)):=(((AC _ _).alloc (AB _) _).alloc (by simp) _).alloc (by simp;omega) _;generalize (((w.alloc (Obj.cells s.cells 24)).alloc (Obj.cells BG 24)).alloc (Obj.cells Z 24))=W at*;try go_frame
 go_wp2_with fail
 go_loopw [6] (fun i wr=>∃k:Nat,k<=18/\i= .int .i64 k/\Bb wr (w.heap.size+1+1) 18 ((List.range k).map (EU s))/\Blk wr w.heap.size 24 s.cells/\Blk wr (w.heap.size+1) 24 BG/\Wx w wr)
  (fun i _=>18-(intOf i).toNat)
 case atStart=>exact⟨0,by omega,rfl,hN,hX,hR,hbW⟩
 case round=>
  clear hN hX hR hbW;obtain⟨k,hk,rfl,hN,hX,hR,hb⟩:=hrel;by_cases hlt:k<18
  ·have e1:=Ey (EU s) k;have E1:=AA e1;clear e1;have E2:Hid (((List.range k).map (EU s)).length=k):=by show _=_;simp
   generalize (List.range k).map (EU s)=nl at*;obtain⟨y,hy⟩:=Ws (EU s k);obtain⟨x,hx⟩:=Ws (KS s k);have e3:Fy x k 0 (15-0)=y:=by rw[<-hx,<-hy];rfl
   have HS:Hid (∀W,Calls prog 189 #[s.val,.int .i64 (k:Int)] W (BW W x)):=fun W=>KW s x k W (by omega) hx
   have HW:Hid (∀W,Calls prog 188 #[x.val,.int .i64 (k:Int),.int .i64 0,.int .i64 15] W (BW W y)):=fun W=>by
    rw[<-e3];exact Mq x k 0 15 W (by omega) (by omega) (by omega)
   rw[hy]at E1;clear hx hy e3;have hDC:=hX.lt;go_wp2_with (first
    |(refine wpList_load_row rfl 24 (.tmp 1) rfl w.heap.size rfl 24 s.cells (0,0) _ hX underlying24 rfl Ap ?_)
    |(go_at_call 189;refine(HS.out _).mono ?_;rintro en w2 ⟨rfl,hb2⟩;have hN2:=hN.below hb2 hN.lt;have hX2:=hX.below hb2 hX.lt;have hR2:=hR.below hb2 hR.lt;have xL:=hb.trans (hb2.mono hb.size);clear HS)
    |(go_at_call 188;refine(HW.out _).mono ?_;rintro en w3 ⟨rfl,hb3⟩;have hN3:=hN2.below hb3 hN2.lt;have hX3:=hX2.below hb3 hX2.lt;have hR3:=hR2.below hb3 hR2.lt;have xT:=xL.trans (hb3.mono xL.size))
    |(refine DQ rfl 24 (.tmp 16) (.tmp 15) rfl (w.heap.size+1+1) 18 k nl y rfl rfl hN3 E2.out hlt Ap ?_))
   intro w4 hN4 hg4 hs4;have hX4:=hX3.kept hg4 (by simp;omega);have hR4:=hR3.kept hg4 (by simp);have xI:Wx w w4:=xT.grown hg4 xT.size (by rintro j ⟨⟩;omega);clear hN hX hR hb hb2 hN2 hX2 hR2 xL hb3 hN3 hX3 hR3 xT hg4 hs4 HW;go_wp2;go_roundw
   case rel=>exact⟨k+1,by omega,by go_num,by rw[E1.out];exact hN4,hX4,hR4,xI⟩
   case measure=>simp[intOf];omega
  ·obtain rfl:k=18:=by omega
   have xN:Calls prog 190 #[.slice (some ⟨w.heap.size+1+1,0,none⟩) 18 18] wr (BW wr r):=by
    have h:=N3 (some ⟨w.heap.size+1+1,0,none⟩) 18 ((List.range 18).map (EU s)) wr hN.rd (by simp);rw[Ab,List.length_range]at h;rw[<-Hr.out];exact h
   have HC:=AA xN;clear xN hN hX;go_wp2_with fail
   refine HC.out.mono ?_;rintro en w3 ⟨rfl,hb3⟩;have hR3:=hR.below hb3 hR.lt;have xT:=hb.trans (hb3.mono hb.size);clear hR hb hb3 HC;go_wp2_with (refine AJ rfl 24 (.tmp 2) (.tmp 19) rfl (w.heap.size+1) _ rfl rfl 24 _ hR3 rfl Ap ?s2 ?_)
   case s2=>exact⟨rfl,rfl,rfl,rfl,rfl,rfl,rfl,rfl⟩
   intro w4 hR4 hg4 hs4;have xI:Wx w w4:=xT.grown hg4 xT.size (by rintro j ⟨⟩;omega);go_wp2;exact bodyPost_ret (results_cell_row (g:=w.heap.size+1) rfl _ _ _ _ _ _ rfl hR4 underlying24 rfl Ap) rfl ⟨rfl,xI⟩
theorem Qn(s m:Nm)(w:World):Calls prog 220 #[s.val,m.val] w (K7 w 18 (KT s m)):=by
 obtain⟨Z,hZ⟩:=Wr (Array.replicate 144 (Value.int .u8 0));have hmk:∀W:World,(Instr.makeSlice 75 (.int .i64 18) (.int .i64 18)).run prog W= .ok (.slice (some ⟨W.heap.size,0,none⟩) 18 18) (W.alloc (.cells Z 24)):=fun W=>by rw[hZ];kernel_rfl
 have HZ:Hid (Z.size=8*18):=by rw[hZ];exact Array.size_replicate
 clear hZ;go_enter func220,ntmps220;go_upto_region 2 with fail
 clear hmk;have hX:Blk (((w.alloc (Obj.cells s.cells 24)).alloc (Obj.cells m.cells 24)).alloc (Obj.cells Z 24)) w.heap.size 24 s.cells:=((Blk.new w _ _).alloc _).alloc _;have hM:Blk (((w.alloc (Obj.cells s.cells 24)).alloc (Obj.cells m.cells 24)).alloc (Obj.cells Z 24)) (w.heap.size+1) 24 m.cells:=by
  have:=(Blk.new (w.alloc (Obj.cells s.cells 24)) 24 m.cells).alloc (Obj.cells Z 24);simpa using this
 have hN:Bb (((w.alloc (Obj.cells s.cells 24)).alloc (Obj.cells m.cells 24)).alloc (Obj.cells Z 24)) (w.heap.size+1+1) 18 []:=by
  have:=Bb.zero ((w.alloc (Obj.cells s.cells 24)).alloc (Obj.cells m.cells 24)) Z 18 HZ.out;simpa using this
 have hbW:Wx w (((w.alloc (Obj.cells s.cells 24)).alloc (Obj.cells m.cells 24)).alloc (Obj.cells Z 24)):=(((AC _ _).alloc (AB _) _).alloc (by simp) _).alloc (by simp;omega) _;generalize (((w.alloc (Obj.cells s.cells 24)).alloc (Obj.cells m.cells 24)).alloc (Obj.cells Z 24))=W at*;try go_frame
 go_wp2_with (refine wpList_load_row rfl 24 (.tmp 3) rfl (w.heap.size+1) rfl 24 m.cells (0,0) _ hM underlying24 rfl Ap ?_)
 clear hM;refine(N4 m W).mono ?_;rintro en w1 ⟨A1,c1,rfl,xB,hb1⟩;replace hX:=hX.below hb1 hX.lt;replace hN:=hN.below hb1 hN.lt;replace xB:=BS xB hbW.size;replace hbW:=hbW.trans (hb1.mono hbW.size);clear hb1 HZ;have hdl:=Kf m;have hE4:=QW m;obtain⟨gd,od,rfl,_,_⟩:=(Rd.of_own xB).cells (by intro e;rw[List.map_eq_nil_iff]at e;rw[e]at hdl;simp at hdl);obtain⟨ds,hds⟩:=Wr (Fx m);rw[<-hds]at xB hdl hE4;have Hds:=AA hds;clear hds;have Hdl:=AA hdl;clear hdl;have Hdle:=AA hE4;clear hE4;go_wp2_with fail
 go_loopw [12] (fun i wr=>∃k:Nat,k<=18/\i= .int .i64 k/\Bb wr (w.heap.size+1+1) 18 ((List.range k).map (GY s m))/\Blk wr w.heap.size 24 s.cells/\wr.ownsRow w.heap.size 3 1 (.slice (some ⟨gd,od,none⟩) 18 c1) 18 (ds.map N)/\Wx w wr)
  (fun i _=>18-(intOf i).toNat)
 case atStart=>exact⟨0,by omega,rfl,hN,hX,xB,hbW⟩
 case round=>
  clear hN hX xB hbW;obtain⟨k,hk,rfl,hN,hX,xB,hb⟩:=hrel;by_cases hlt:k<18
  ·have e1:=Ey (GY s m) k;have E1:=AA e1;clear e1;have E2:Hid (((List.range k).map (GY s m)).length=k):=by show _=_;simp
   generalize (List.range k).map (GY s m)=nl at*;have hdk:=QY 0 (l:=ds) (k:=k) (by rw[Hdl.out];exact hlt);have hd15:=Hdle.out _ (AN hdk);obtain⟨y,hy⟩:=Ws (GY s m k);obtain⟨x,hx⟩:=Ws (KS s k);have e3:Fy x k 0 (ds.getD k 0-0)=y:=by rw[<-hx,<-hy,Hds.out];rfl
   generalize ds.getD k 0=d at*;have hdc:wr.cell? ⟨gd,od+k,none⟩=some (N d):=by
    obtain⟨gd',od',he,_,hc⟩:=(Rd.of_own xB).cells (by intro e;rw[e]at xB;have:=xB.1;simp at this);injection he with he
    injection he with h1 h2
    subst h1;subst h2;exact hc k _ (by rw[AV,hdk];rfl)
   have HS:Hid (∀W,Calls prog 189 #[s.val,.int .i64 (k:Int)] W (BW W x)):=fun W=>KW s x k W (by omega) hx
   have HW:Hid (∀W,Calls prog 188 #[x.val,.int .i64 (k:Int),.int .i64 0,.int .i64 (d:Int)] W (BW W y)):=fun W=>by
    rw[<-e3];exact Mq x k 0 d W (by omega) (by omega) (by omega)
   rw[hy]at E1;clear hx hy e3 hdk;have hDC:=hX.lt;go_wp2_with (first
    |(refine wpList_load_row rfl 24 (.tmp 2) rfl w.heap.size rfl 24 s.cells (0,0) _ hX underlying24 rfl Ap ?_)
    |(go_at_call 189;refine(HS.out _).mono ?_;rintro en w2 ⟨rfl,hb2⟩;have hN2:=hN.below hb2 hN.lt;have hX2:=hX.below hb2 hX.lt;have xG:=BP xB hb2 (AB _);have xL:=hb.trans (hb2.mono hb.size);clear HS)
    |(go_at_call 188;refine(HW.out _).mono ?_;rintro en w3 ⟨rfl,hb3⟩;have hN3:=hN2.below hb3 hN2.lt;have hX3:=hX2.below hb3 hX2.lt;have xC:=BP xG hb3 (AB _);have xT:=xL.trans (hb3.mono xL.size))
    |(refine DQ rfl 24 (.tmp 25) (.tmp 24) rfl (w.heap.size+1+1) 18 k nl y rfl rfl hN3 E2.out hlt Ap ?_))
   intro w4 hN4 hg4 hs4;have hX4:=hX3.kept hg4 (by simp;omega);have xX:=xC.kept hg4 (by
    obtain⟨cur,hC,_⟩:=hN3;exact .inr fun e=>CO xC hC (by decide) e.symm)
   have xI:Wx w w4:=xT.grown hg4 xT.size (by rintro j ⟨⟩;omega);clear hN hX xB hb hb2 hN2 hX2 xG xL hb3 hN3 hX3 xC xT hg4 hs4 HW hdc;go_wp2;go_roundw
   case rel=>exact⟨k+1,by omega,by go_num,by rw[E1.out];exact hN4,hX4,xX,xI⟩
   case measure=>simp[intOf];omega
  ·obtain rfl:k=18:=by omega
   clear hX xB;go_wp2;go_ret;exact⟨_,rfl,hN,hb⟩
end
section
open Go.RowKit
attribute [local go_sem ↓] Go.wp_at_zero Go.wp_at_succ Aq
attribute [local go_sem] BE AR AX AU
theorem WX{w:World}{B' b o:Nat}{l:List Nm}{k:Nat}{x:Nm}(h:Rd w B' (some ⟨b,o,none⟩) (l.flatMap nmc))(hk:l[k]? =some x):AK w b (o+k*8) 8=some x.cells:=by
 obtain⟨b',o',e,_,hc⟩:=h.name hk;injection e with e
 injection e with e1 e2
 subst e1;subst e2;exact By (fun j u hu=>hc j u (by simpa using hu)) rfl
theorem Sq{w:World}{B':Nat}{A:Option Addr}{l:List Nm}(h:Rd w B' A (l.flatMap nmc))(k:Nat):Rd w B' A ((l.take k).flatMap nmc):=by
 have h1:=h.take (k*8);have e:(l.flatMap nmc).take (k*8)=(l.take k).flatMap nmc:=by
  clear h h1
  induction l generalizing k with
  |nil=>simp
  |cons a r ih=>
   cases k with
   |zero=>simp
   |succ k=>
    rw[List.flatMap_cons,List.take_succ_cons,List.flatMap_cons,<-ih k,Nat.succ_mul,Nat.add_comm (k*8) 8];exact List.take_length_add_append (l₁:=nmc a) (k*8)
 rw[<-e];exact h1
theorem Sr{w:World}{B' b o:Nat}{l:List Nm}(h:Rd w B' (some ⟨b,o,none⟩) (l.flatMap nmc))(k:Nat):Rd w B' (some ⟨b,o+k*8,none⟩) ((l.drop k).flatMap nmc):=by
 rcases h with h|⟨b',o',e,hb,hc⟩
 ·refine .inl ?_;have h0:l=[]:=by
   cases l with
   |nil=>rfl
   |cons a r=>simp at h
  rw[h0];simp
 ·injection e with e
  injection e with e1 e2
  subst e1;subst e2;refine .inr ⟨b,o+k*8,rfl,hb,fun j u hu=>?_⟩;rw[Nat.add_assoc];refine hc _ u ?_;rw[<-hu];clear hu hc
  induction l generalizing k with
  |nil=>simp
  |cons a r ih=>
   cases k with
   |zero=>simp
   |succ k=>
    rw[List.drop_succ_cons,<-ih k,List.flatMap_cons,show(k+1)*8+j=8+(k*8+j)from by omega,List.getElem?_append_right (by simp)];simp
theorem GG(x:Nm){u:Value}(h:u∈x.cells.toList):u.oneCell'=true:=by
 simp at h;rcases h with rfl|rfl|rfl|rfl|rfl|rfl|rfl|rfl <;> rfl
theorem OV(d n k c b o:Nat)(r1 r2 r:Nm)(w:World)(hk:k=2^d)(hn:n=2^(d+1))(hd:d<=40)(hc:n<=c)(h1:∀W,Wx w W->Calls prog 91 #[.slice (some ⟨b,o,none⟩) k c] W (BW W r1))(h2:∀W,Wx w W->Calls prog 91 #[.slice (some ⟨b,o+k*8,none⟩) k (c-k)] W (BW W r2))(hr:D3 (18::(r1.bytes++r2.bytes))=r):Calls prog 91 #[.slice (some ⟨b,o,none⟩) n c] w (BW w r):=by
 have HS:=AA hr;clear hr;have H1:=AA h1;clear h1;have H2:=AA h2;clear h2;have hk1:1<=k:=by rw[hk];exact Nat.one_le_two_pow
 have hkb:k<=1099511627776:=by rw[hk];exact Nat.pow_le_pow_right (j:=40) (by omega) hd
 have h2k:n=2*k:=by rw[hn,hk,Nat.pow_succ];omega
 have xN:∀W,Calls prog 137 #[.int .i64 (n:Int)] W fun en w'=>en= .returned (.int .i64 (k:Int))/\w'=W:=fun W=>by
  rw[hk];exact EC d n W hn hd
 have HC:=AA xN;clear xN;have hne0:((n:Int)==0)=false:=by rw[beq_eq_false_iff_ne];omega
 have zT:((n:Int)==1)=false:=by rw[beq_eq_false_iff_ne];omega
 clear hk hn;subst h2k;have i1:(0:Int)<=(k:Int):=by omega
 have i2:(k:Int)<=(c:Int):=by omega
 have i3:(k:Int)<=((2*k:Nat):Int):=by omega
 have i4:¬c=k:=by omega
 have i5:2*k-k=k:=by omega
 have i6:((2*k:Nat):Int)<=(c:Int):=by omega
 obtain⟨n,hn⟩:=Wr (2*k);rw[<-hn]at hne0 zT HC i3 i5 i6 ⊢;clear hn;go_enter func91,ntmps91;go_upto_region 7 with((go_at_call 137;refine(HC.out _).mono ?_;rintro en w' ⟨rfl,rfl⟩))
 have hR:Blk (w.alloc (Obj.cells BG 24)) w.heap.size 24 BG:=Blk.new w _ _;have hbW:Wx w (w.alloc (Obj.cells BG 24)):=(AC _ _).alloc (AB _) _;generalize (w.alloc (Obj.cells BG 24))=W at*;refine rgD (fun _=>True) (trivial) fun _=>?_
 iterate 3 (refine tkA ?_;go_frame)
 refine tkD 22 4 ?_;go_frame;refine tkD 23 5 ?_;go_frame;refine tkD 24 6 ?_;go_frame;refine rd1 3 fun K hK=>?_
 go_simp;refine(H1.out _ hbW.drew).mono ?_;rintro en w2 ⟨rfl,hb2⟩;have xu:=hbW.drew.trans (hb2.mono hbW.size);have hR2:=hR.drew.below hb2 hR.drew.lt;go_wp2_with fail
 refine hK.out _ _ (trivial) (fun _=>?_);clear hK K;try go_frame
 refine rd1 7 fun K hK=>?_
 go_simp;refine(H2.out _ xu).mono ?_;rintro en w3 ⟨rfl,hb3⟩;have xD:=xu.trans (hb3.mono xu.size);have hR3:=hR2.below hb3 hR2.lt;go_wp2_with fail
 refine hK.out _ _ (trivial) (fun _=>?_);clear hK K;try go_frame
 refine rd1 8 fun K hK=>?_
 go_simp;refine(QC 18 r1 r2 r _ HS.out).mono ?_;rintro en w4 ⟨rfl,hb4⟩;have xl:=xD.trans (hb4.mono xD.size);have hR4:=hR3.below hb4 hR3.lt;go_wp2_with fail
 refine hK.out _ _ (trivial) (fun _=>?_);clear hK K;try go_frame
 refine rd1 9 fun K hK=>?_
 rw[if_pos (by rfl)];refine BU 24 (.tmp 2) (.tmp 26) (by rfl) w.heap.size r.cells (by rfl) (by rfl) 24 BG hR4 rfl Ap ?st1 (by rfl) ?_
 case st1=>exact fun u hu=>GG r hu
 intro w5 hR5 hg5 hs5;refine hK.out _ _ (trivial) (fun _=>?_);clear hK K;try go_frame
 refine dnD ?_;have xS:Wx w w5:=xl.grown hg5 xl.size (by rintro j ⟨⟩;omega);go_wp2;exact bodyPost_ret (results_cell_row (g:=w.heap.size) (cs:=r.cells) rfl _ _ _ _ _ rfl hR5 underlying24 rfl Ap) rfl ⟨rfl,xS⟩
theorem OX(x r:Nm)(b o c:Nat)(w:World)(hx:AK w b o 8=some x.cells)(hb:b<w.heap.size)(hr:D3 (17::x.bytes)=r):Calls prog 91 #[.slice (some ⟨b,o,none⟩) 1 c] w (BW w r):=by
 have HS:=AA hr;clear hr;have hx2:AK (w.alloc (Obj.cells BG 24)) b o 8=some x.cells:=BC hx ((AC _ _).alloc (AB _) _) hb;clear hx;go_enter func91,ntmps91;go_upto_region 5 with fail
 have hR:Blk (w.alloc (Obj.cells BG 24)) w.heap.size 24 BG:=Blk.new w _ _;have hbW:Wx w (w.alloc (Obj.cells BG 24)):=(AC _ _).alloc (AB _) _;generalize (w.alloc (Obj.cells BG 24))=W at*;go_wp2_with (first
  |(go_at_call 136;refine(Ma x r _ HS.out).mono ?_;rintro en w5 ⟨rfl,hb5⟩;have hR5:=hR.below hb5 hR.lt;have xS:=hbW.trans (hb5.mono hbW.size))
  |(refine AJ rfl 24 (.tmp 2) (.tmp 14) rfl w.heap.size _ rfl rfl 24 _ hR5 rfl Ap ?s2 ?_))
 case s2=>exact⟨rfl,rfl,rfl,rfl,rfl,rfl,rfl,rfl⟩
 intro w6 hR6 hg6 hs6;have xh:Wx w w6:=xS.grown hg6 xS.size (by rintro j ⟨⟩;omega);go_wp2;exact bodyPost_ret (results_cell_row (g:=w.heap.size) rfl _ _ _ _ _ _ rfl hR6 underlying24 rfl Ap) rfl ⟨rfl,xh⟩
theorem JM{w:World}{B':Nat}{A:Option Addr}{l:List Nm}(h:Rd w B' A (l.flatMap nmc))(hl:0<l.length):∃b o,A=some ⟨b,o,none⟩/\b<B':=by
 obtain⟨b,o,e,hb,_⟩:=h.cells (by intro e;have:=AY nmc 8 l (Cm l);rw[e]at this;simp at this;omega);exact⟨b,o,e,hb⟩
theorem FJ:∀(d:Nat) (l:List Nm) (A:Option Addr) (n c:Nat) (w:World),l.length=n->n=2^d->d<=40->n<=c->c<=maxLen->Rd w w.heap.size A (l.flatMap nmc)->Calls prog 91 #[.slice A n c] w (BW w (GE d l))
 |0,l,A,n,c,w,hl,hn,_,_,_,hr=>by
  obtain rfl:n=1:=hn;obtain⟨b,o,rfl,hb⟩:=JM hr (by omega);obtain⟨x,hx⟩:∃x,l[0]? =some x:=⟨_,AE (by omega)⟩;have e:GE 0 l=D3 (17::x.bytes):=by rw[GE,List.getD_eq_getElem?_getD,hx];rfl
  rw[e];exact OX x _ b o c w (by simpa using WX hr (k:=0) hx) hb rfl
 |d+1,l,A,n,c,w,hl,hn,hd,hc,hm,hr=>by
  have h2:n=2*2^d:=by rw[hn,Nat.pow_succ];omega
  have hp:1<=2^d:=Nat.one_le_two_pow;obtain⟨b,o,rfl,hb⟩:=JM hr (by omega);exact OV d n (2^d) c b o _ _ _ w rfl hn (by omega) hc
   (fun W hW=>FJ d (l.take (2^d)) _ _ c W (by rw[AZ];omega) rfl (by omega) (by omega) hm (Sq ((hr.below hW).more hW.size) _))
   (fun W hW=>FJ d (l.drop (2^d)) _ _ (c-2^d) W (by rw[List.length_drop];omega) rfl (by omega) (by omega) (by omega) (Sr ((hr.below hW).more hW.size) _)) rfl
end
end Go.Proofs.YtadllffeoibelaaGreat
