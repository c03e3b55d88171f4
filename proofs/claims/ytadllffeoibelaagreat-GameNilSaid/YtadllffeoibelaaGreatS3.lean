/-
  What these parts of the proof come to, functions walked and plain laws: MapE, Hash, Num, Codec, Enc. No condition.
-/
import Derived.Test.YtadllffeoibelaaGreatS2
import Derived.Test.YtadllffeoibelaaGreatS1
import Derived.Deep.RegionHeld3
import Derived.RegionTactic
import Derived.StillTailTactics
import Derived.BigQuiet
import Derived.Deep.QuietTactic
import Derived.LoopN
import Derived.Laws.CopyOwn
namespace Go.Proofs.YtadllffeoibelaaGreat
section
open Go.RowKit
section
variable {κ : Type} {enc : κ→Value} {w w' : World} {m b : Nat} {l : List (κ × Value)} {P : Program} {kt : TypeId} {k : κ}
def MapE (enc : κ→Value) (w : World) (m : Nat) (l : List (κ × Value)) (k : κ) (b : Nat) : Prop :=
 ∃ (es : Array MapEntry) (clock i : Nat) (e : MapEntry),w.heap[m]? = some (.map es clock)∧es.toList.map (fun e => (e.key,e.val)) = l.map (fun p => (enc p.1,p.2))∧(es.toList.map (·.born)).Nodup∧(∀ e ∈ es.toList,e.born < clock)∧es[i]? = some e∧e.born = b∧(l[i]?).map (·.1) = some k
def Upd [DecidableEq κ] (k : κ) (v : Value) (l l' : List (κ × Value)) : Prop:=∀ p ∈ l',p ∈ l∨p = (k,v)
theorem find_born_idx : ∀ (es : List MapEntry) (i : Nat) (e : MapEntry),(es.map (·.born)).Nodup→es[i]? = some e→es.findIdx? (fun x => (x.born : Int) == (e.born : Int)) = some i
 | [],i,e,_,h => by simp at h
 | x :: r,0,e,_,h => by
  simp at h
  subst h
  simp [List.findIdx?_cons]
 | x :: r,i + 1,e,hn,h => by
  simp only [List.getElem?_cons_succ] at h
  rw [List.map_cons,List.nodup_cons] at hn
  have hne : x.born ≠ e.born:=fun he => hn.1 (by rw [he]; exact List.mem_map.2 ⟨e,List.mem_of_getElem? h,rfl⟩)
  have hb : ((x.born : Int) == (e.born : Int)) = false:=by simp; omega
  rw [List.findIdx?_cons,hb,find_born_idx r i e hn.2 h]
  rfl
variable [DecidableEq κ]
theorem key_at (k : κ) : ∀ (j : Nat) (l : List (κ × Value)),(∀ v,aput k v l = l.set j (k,v))→j < l.length→(l[j]?).map (·.1) = some k
 | j,[],_,h => by simp at h
 | 0,p :: r,h,_ => by
  by_cases hk : k = p.1
  ·simp [hk]
  ·have:=h undef
   rw [aput,if_neg hk,List.set_cons_zero,List.cons.injEq] at this
   exact absurd (by rw [this.1]) hk
 | j + 1,p :: r,h,hj => by
  by_cases hk : k = p.1
  ·have h1:=h (.bool true)
   have h2:=h (.bool false)
   rw [aput,if_pos hk,List.set_cons_succ,List.cons.injEq] at h1 h2
   have:=h1.1.trans h2.1.symm
   injection this with _ h3
   injection h3 with h3
   cases h3
  ·rw [List.getElem?_cons_succ]
   refine key_at k j r (fun v => ?_) (by simpa using hj)
   have:=h v
   rw [aput,if_neg hk,List.set_cons_succ,List.cons.injEq] at this
   exact this.2
theorem MapB.entry (h : MapB enc w m l) (K : KeyOk P kt enc) {t e : TypeId} (ht : P.underlying t = some (.map kt e)) (z : Value) (hz : ∀ w,(zeroValue e).run P w = .ok z w) (k : κ) :
  ∃ (w' : World) (b : Nat) (v : Value) (l' : List (κ × Value)),(Instr.mapEntry t (.map (some m)) (enc k)).run P w = .ok (.tuple #[v,goInt (b : Int)]) w'∧MapE enc w' m l' k b∧Upd k z l l'∧l'.length≤l.length + 1∧w.grownBy w' (some m)∧w'.heap.size = w.heap.size:=by
 obtain ⟨es,c,h1,h2,h3,h4⟩:=h
 have hlt:=(Array.getElem?_eq_some_iff.1 h1).1
 have put : ∀ o : Obj,({ w with heap:=w.heap.setIfInBounds m o } : World).heap[m]? = some o:=fun o => by simp [hlt]
 have gr : ∀ o : Obj,w.grownBy { w with heap:=w.heap.setIfInBounds m o } (some m):=fun o => ⟨rfl,rfl,rfl,by simp,fun i hi hne => by
  have : m ≠ i:=fun e => hne (by rw [e])
  simp [this]⟩
 have hlen : es.size = l.length:=by
  have:=congrArg List.length h2
  simpa using this
 unfold Instr.mapEntry
 simp only [Sem.run_bind,run_underlying ht,Result.andThen_ok,MapKept.run_getObj_map h1,K.check,run_findKey K k w es.toList l h2]
 rcases run_asking K k w es.toList l 0 h2 with ⟨_,a2,a3⟩ | ⟨j,u,b1,⟨e',b2,b3,b4⟩,b5,b6,b7⟩
 ·rw [a3]
  simp only [Result.andThen_ok,Sem.run_bind,hz]
  rw [MapKept.run_setObj_map _ h1]
  refine ⟨_,c,z,l ++ [(k,z)],rfl,⟨_,_,es.size,⟨enc k,z,c⟩,put _,?_,?_,?_,by simp,rfl,?_⟩,?_,by simp,gr _,by simp⟩
  ·simp [h2]
  ·rw [Array.toList_push,List.map_append,List.nodup_append]
   refine ⟨h3,by simp,?_⟩
   intro x hx y hy
   obtain ⟨e1,he1,rfl⟩:=List.mem_map.1 hx
   simp only [List.map_cons,List.map_nil,List.mem_singleton] at hy
   have:=h4 e1 he1
   omega
  ·intro x hx
   rw [Array.toList_push] at hx
   rcases List.mem_append.1 hx with hx | hx
   ·have:=h4 x hx
    omega
   ·rw [List.mem_singleton.1 hx]
    exact Nat.lt_succ_self c
  ·rw [hlen,List.getElem?_append_right (Nat.le_refl _)]
   simp
  ·intro p hp
   rcases List.mem_append.1 hp with hp | hp
   ·exact .inl hp
   ·exact .inr (List.mem_singleton.1 hp)
 ·rw [b7]
  simp only [Result.andThen_ok,Sem.run_bind,Nat.zero_add]
  have he : es[j]? = some e':=by rw [← Array.getElem?_toList]; exact b2
  have hs : (Instr.keyThatStays (((es[j]?).map (·.key)).getD (enc k)) (enc k)).run P w = .ok (enc k) w:=by
   rw [he]
   unfold Instr.keyThatStays
   simp only [Option.map_some,Option.getD_some,b3,K.bits,if_true]
   rfl
  rw [hs]
  simp only [Result.andThen_ok]
  rw [MapKept.run_setObj_map _ h1]
  have hk : (l[j]?).map (fun p => (enc p.1,p.2)) = some (enc k,u):=by
   have h5:=congrArg (fun x => x[j]?) h2
   simp only [List.getElem?_map,b2,Option.map_some,b3,b4] at h5
   exact h5.symm
  refine ⟨_,e'.born,u,l,?_,⟨es.modify j fun e => { e with key:=enc k },c,j,{ e' with key:=enc k },put _,?_,?_,?_,by rw [Array.getElem?_modify,if_pos rfl,he]; rfl,rfl,?_⟩,fun p hp => .inl hp,by omega,gr _,by simp⟩
  ·simp [Result.andThen,he]
  ·apply List.ext_getElem?
   intro i
   have h6:=congrArg (fun x => x[i]?) h2
   simp only [List.getElem?_map,Array.getElem?_toList] at h6 ⊢
   rw [Array.getElem?_modify]
   by_cases hij : j = i
   ·subst hij
    rw [if_pos rfl,hk,he]
    simp [b4]
   ·rw [if_neg hij,h6]
  ·rw [born_modify es j (fun e => { e with key:=enc k }) (fun _ => rfl)]
   exact h3
  ·intro x hx
   have hb : x.born ∈ (es.toList.map (·.born)):=by
    rw [← born_modify es j (fun e => { e with key:=enc k }) (fun _ => rfl)]
    exact List.mem_map.2 ⟨x,hx,rfl⟩
   obtain ⟨y,hy,hyb⟩:=List.mem_map.1 hb
   rw [← hyb]
   exact h4 y hy
  ·rw [key_at k j l (fun v => b5 v) b6]
theorem MapE.store (h : MapE enc w m l k b) (t : TypeId) (v : Value) :
  ∃ w' l',(Instr.entryStore t (.map (some m)) (goInt (b : Int)) v).run P w = .ok () w'∧MapB enc w' m l'∧Upd k v l l'∧l'.length = l.length∧w.grownBy w' (some m)∧w'.heap.size = w.heap.size:=by
 obtain ⟨es,c,i,e,h1,h2,h3,h4,h5,rfl,h7⟩:=h
 have hlt:=(Array.getElem?_eq_some_iff.1 h1).1
 have put : ∀ o : Obj,({ w with heap:=w.heap.setIfInBounds m o } : World).heap[m]? = some o:=fun o => by simp [hlt]
 have gr : ∀ o : Obj,w.grownBy { w with heap:=w.heap.setIfInBounds m o } (some m):=fun o => ⟨rfl,rfl,rfl,by simp,fun i hi hne => by
  have : m ≠ i:=fun e => hne (by rw [e])
  simp [this]⟩
 obtain ⟨p,hp,hpk⟩:=Option.map_eq_some_iff.1 h7
 have hf : es.findIdx? (fun x => (x.born : Int) == (e.born : Int)) = some i:=by
  have:=find_born_idx es.toList i e h3 (by rw [Array.getElem?_toList]; exact h5)
  rw [← List.findIdx?_toArray] at this
  simpa using this
 have ha : ∀ W : World,(asInt (goInt (e.born : Int))).run P W = .ok (e.born : Int) W:=fun _ => rfl
 unfold Instr.entryStore
 simp only [Sem.run_bind,MapKept.run_getObj_map h1,Result.andThen_ok,ha,hf]
 refine ⟨_,l.set i (k,v),MapKept.run_setObj_map _ h1,⟨_,_,put _,?_,?_,?_⟩,?_,by simp,gr _,by simp⟩
 ·apply List.ext_getElem?
  intro j
  have h6:=congrArg (fun x => x[j]?) h2
  simp only [List.getElem?_map,Array.getElem?_toList] at h6 ⊢
  rw [Array.getElem?_modify,List.getElem?_set]
  by_cases hij : i = j
  ·subst hij
   have hb6 : i < l.length:=(List.getElem?_eq_some_iff.1 hp).1
   rw [h5,hp] at h6
   simp only [Option.map_some,Option.some.injEq,Prod.mk.injEq] at h6
   rw [if_pos rfl,if_pos rfl,if_pos hb6,h5]
   simp [h6.1,hpk]
  ·simp [hij,h6]
 ·rw [born_modify es i (fun e => { e with val:=v }) (fun _ => rfl)]
  exact h3
 ·intro x hx
  have hb : x.born ∈ (es.toList.map (·.born)):=by
   rw [← born_modify es i (fun e => { e with val:=v }) (fun _ => rfl)]
   exact List.mem_map.2 ⟨x,hx,rfl⟩
  obtain ⟨y,hy,hyb⟩:=List.mem_map.1 hb
  rw [← hyb]
  exact h4 y hy
 ·intro q hq
  rcases List.mem_or_eq_of_mem_set hq with h | h
  ·exact .inl h
  ·exact .inr h
end
end
section
open Go.RowKit
def rotl (v k : UInt64) : UInt64:=v <<< k ||| v >>> (64 - k)
theorem rotl13 (v : UInt64) : bits BinOp.or IntKind.u64 (IntKind.u64.wrap ((v.toNat : Int) * 8192)) ((v.toNat : Int) / 2251799813685248) = ((rotl v 13).toNat : Int):=by
 have h1 : IntKind.u64.wrap ((v.toNat : Int) * 8192) = ((v <<< (13 : UInt64)).toNat : Int):=by
  rw [UInt64.toNat_shiftLeft,IntKind.wrap_u64]
  simp only [show ((13 : UInt64).toNat % 64) = 13 from rfl,Nat.shiftLeft_eq]; omega
 have h2 : ((v.toNat : Int) / 2251799813685248) = ((v >>> (64 - 13 : UInt64)).toNat : Int):=by
  rw [UInt64.toNat_shiftRight]
  simp only [show ((64 - 13 : UInt64).toNat % 64) = 51 from rfl,Nat.shiftRight_eq_div_pow]; omega
 rw [h1,h2,u_or]; rfl
theorem rotl32 (v : UInt64) : bits BinOp.or IntKind.u64 (IntKind.u64.wrap ((v.toNat : Int) * 4294967296)) ((v.toNat : Int) / 4294967296) = ((rotl v 32).toNat : Int):=by
 have h1 : IntKind.u64.wrap ((v.toNat : Int) * 4294967296) = ((v <<< (32 : UInt64)).toNat : Int):=by
  rw [UInt64.toNat_shiftLeft,IntKind.wrap_u64]
  simp only [show ((32 : UInt64).toNat % 64) = 32 from rfl,Nat.shiftLeft_eq]; omega
 have h2 : ((v.toNat : Int) / 4294967296) = ((v >>> (64 - 32 : UInt64)).toNat : Int):=by
  rw [UInt64.toNat_shiftRight]
  simp only [show ((64 - 32 : UInt64).toNat % 64) = 32 from rfl,Nat.shiftRight_eq_div_pow]; omega
 rw [h1,h2,u_or]; rfl
theorem ret_u {a b : Int} (h : a = b) : Ending.returned (.int .u64 a) = .returned (.int .u64 b):=by rw [h]
set_option maxHeartbeats 400000 in
theorem rot13 (v : UInt64) (w : World) :
  Calls Tryz.prog 183 #[U v,.int .i64 13] w fun e w' => e = .returned (U (rotl v 13))∧w' = w:=by
 have hb : bits BinOp.and IntKind.u64 13 63 = 13:=by decide +kernel
 go_enter Tryz.func183,Tryz.ntmps183
 go_wp2
 go_ret
 exact ⟨ret_u (rotl13 v),rfl⟩
set_option maxHeartbeats 400000 in
theorem rot32 (v : UInt64) (w : World) :
  Calls Tryz.prog 183 #[U v,.int .i64 32] w fun e w' => e = .returned (U (rotl v 32))∧w' = w:=by
 have hb : bits BinOp.and IntKind.u64 32 63 = 32:=by decide +kernel
 go_enter Tryz.func183,Tryz.ntmps183
 go_wp2
 go_ret
 exact ⟨ret_u (rotl32 v),rfl⟩
def mixF (s : UInt64 × UInt64) : UInt64 × UInt64:=(rotl (s.1 + s.2) 32 * 0x9e3779b97f4a7c15,rotl s.2 13 ^^^ (s.1 + s.2))
theorem mul_mix (x : UInt64) : IntKind.u64.wrap ((x.toNat : Int) * 11400714819323198485) = ((x * 0x9e3779b97f4a7c15).toNat : Int):=by
 rw [IntKind.wrap_u64,UInt64.toNat_mul,show (0x9e3779b97f4a7c15 : UInt64).toNat = 11400714819323198485 from rfl]; omega
def mixN : Nat→UInt64 × UInt64→UInt64 × UInt64
 | 0,s => s
 | n + 1,s => mixF (mixN n s)
set_option maxRecDepth 100000 in
set_option maxHeartbeats 1000000 in
theorem mix_any (n : Nat) (x y : UInt64) (b : Nat) (w : World) (hn : n≤1000) (hb : Blk w b 193 #[U x,U y]) :
  Calls Tryz.prog 126 #[.pointer (some ⟨b,0,none⟩),.int .i64 n] w fun e w' => e = .returned (.tuple #[]) ∧
   Blk w' b 193 #[U (mixN n (x,y)).1,U (mixN n (x,y)).2]∧w.grownBy w' (some b)∧w'.heap.size = w.heap.size:=by
 go_enter Tryz.func126,Tryz.ntmps126
 go_wp2
 go_loopw [5] (fun i wr => ∃ k : Nat,k≤n∧i = .int .i64 k∧Blk wr b 193 #[U (mixN k (x,y)).1,U (mixN k (x,y)).2]∧w.grownBy wr (some b)∧wr.heap.size = w.heap.size)
  (fun i _ => n - (intOf i).toNat)
 case atStart => exact ⟨0,Nat.zero_le _,rfl,hb,one_refl _ _,rfl⟩
 case round =>
  obtain ⟨k,hk,rfl,hB,hg,hs⟩:=hrel
  by_cases hlt : k < n
  ·have hsucc : mixN (k + 1) (x,y) = mixF (mixN k (x,y)):=rfl
   have Hs:=Lib.hid hsucc; clear hsucc
   generalize hm : mixN k (x,y) = s at *
   obtain ⟨a,c⟩:=s
   have Hm:=Lib.hid hm; clear hm
   have c0:=hB.cell 0
   have c1:=hB.cell 1
   have f0:=hB.frozen 0
   have f1:=hB.frozen 1
   simp at c0 c1
   go_wp2
   go_region
   simp only [u_add]
   generalize hsum : a + c = s at *
   have Hsum:=Lib.hid hsum; clear hsum
   have hB2:=(hB.put 0 (U s)).drew
   have hg2:=one_drew (one_put hg (p:=⟨b,0,none⟩) rfl (U s))
   have hs2 : ((wr.setCell ⟨b,0,none⟩ (U s)).drew).heap.size = w.heap.size:=by simpa [World.setCell] using hs
   generalize (World.setCell wr ⟨b,0,none⟩ (U s)).drew = w2 at *
   clear hB hg hs c0 c1 f0 f1
   have c0:=hB2.cell 0
   have c1:=hB2.cell 1
   have f0:=hB2.frozen 0
   have f1:=hB2.frozen 1
   simp at c0 c1
   go_wp2
   refine wp_region_still_tail 11 (by kernel_rfl) (by kernel_rfl) ?_
   simp only [List.take_succ_cons,List.take_zero,List.drop_succ_cons,List.drop_zero]
   iterate 5 still_step
   still_call (rot13 _ _)
   iterate 5 still_step
   refine wpStill_nil ?_
   change wpList _ _ _ _ _ w2.drew
   go_wp2_with fail
   simp only [u_xor]
   generalize hx2 : rotl c 13 ^^^ s = y2 at *
   have Hx2:=Lib.hid hx2; clear hx2
   have hB3:=(hB2.put 1 (U y2)).drew
   have hg3:=one_drew (one_put hg2 (p:=⟨b,1,none⟩) rfl (U y2))
   have hs3 : ((w2.setCell ⟨b,1,none⟩ (U y2)).drew).heap.size = w.heap.size:=by simpa [World.setCell] using hs2
   generalize (w2.setCell ⟨b,1,none⟩ (U y2)).drew = w3 at *
   clear hB2 hg2 hs2 c0 c1 f0 f1
   have c0:=hB3.cell 0
   have c1:=hB3.cell 1
   have f0:=hB3.frozen 0
   simp at c0 c1
   refine (rot32 _ _).mono ?_; rintro e w' ⟨rfl,rfl⟩
   go_wp2_with fail
   simp only [mul_mix]
   go_roundw
   case rel =>
    refine ⟨k + 1,by omega,by go_num,?_,?_,?_⟩
    ·rw [Hs.out]
     have:=hB3.put 0 (U (rotl s 32 * 0x9e3779b97f4a7c15))
     simp only [mixF,Hsum.out,Hx2.out]
     exact this
    ·exact one_put hg3 rfl _
    ·simpa [World.setCell] using hs3
   case measure => simp [intOf]; omega
  ·obtain rfl : k = n:=by omega
   go_wp2
   go_end0
   exact ⟨rfl,hB,hg,hs⟩
end
section
open Go.RowKit
def numN (l : List UInt8) : Nat:=l.foldl (fun v b => v * 256 + b.toNat) 0
theorem num_fold_lt : ∀ (l : List UInt8) (v : Nat),l.foldl (fun v b => v * 256 + b.toNat) v < (v + 1) * 256 ^ l.length
 | [],v => by simp
 | b :: r,v => by
  have hb:=b.toNat_lt
  have h:=num_fold_lt r (v * 256 + b.toNat)
  rw [List.foldl_cons,List.length_cons,Nat.pow_succ]
  refine Nat.lt_of_lt_of_le h ?_
  rw [Nat.mul_comm (256 ^ r.length) 256,← Nat.mul_assoc]
  exact Nat.mul_le_mul_right _ (by omega)
theorem numN_lt (l : List UInt8) : numN l < 256 ^ l.length:=by
 have:=num_fold_lt l 0
 simpa [numN] using this
theorem or_add (a b k : Nat) (hb : b < 2 ^ k) (h : 2 ^ k * a + b < 18446744073709551616) : bits .or .u64 ((2 ^ k * a : Nat) : Int) (b : Int) = ((2 ^ k * a + b : Nat) : Int):=by
 show IntKind.u64.wrap ((BitVec.ofInt 64 ((2 ^ k * a : Nat) : Int) ||| BitVec.ofInt 64 (b : Int)).toNat : Int) = _
 rw [BitVec.toNat_or,BitVec.ofInt_natCast,BitVec.ofInt_natCast,BitVec.toNat_ofNat,BitVec.toNat_ofNat,Nat.mod_eq_of_lt (by omega),Nat.mod_eq_of_lt (by omega),← Nat.two_pow_add_eq_or_of_lt hb,IntKind.wrap_u64]
 omega
theorem or_step (v : Nat) (b : UInt8) (hv : v < 72057594037927936) : bits .or .u64 (IntKind.u64.wrap ((v : Int) * 256)) (IntKind.u64.wrap (b.toNat : Int)) = ((v * 256 + b.toNat : Nat) : Int):=by
 have hb:=b.toNat_lt
 have e1 : IntKind.u64.wrap ((v : Int) * 256) = ((2 ^ 8 * v : Nat) : Int):=by rw [IntKind.wrap_u64]; omega
 have e2 : IntKind.u64.wrap (b.toNat : Int) = ((b.toNat : Nat) : Int):=by rw [IntKind.wrap_u64]; omega
 rw [e1,e2,or_add v b.toNat 8 (by omega) (by omega)]
 omega
theorem or_zero (b : UInt8) : bits .or .u64 0 (IntKind.u64.wrap (b.toNat : Int)) = ((b.toNat : Nat) : Int):=by
 have h:=or_step 0 b (by omega)
 have z : IntKind.u64.wrap (((0 : Nat) : Int) * 256) = 0:=by rw [IntKind.wrap_u64]; rfl
 rw [z,Nat.zero_mul,Nat.zero_add] at h
 exact h
theorem num_nest (b0 b1 b2 b3 b4 b5 b6 b7 : UInt8) :
  bits .or .u64 (IntKind.u64.wrap (bits .or .u64 (IntKind.u64.wrap (bits .or .u64 (IntKind.u64.wrap (bits .or .u64 (IntKind.u64.wrap (bits .or .u64 (IntKind.u64.wrap (bits .or .u64 (IntKind.u64.wrap (bits .or .u64 (IntKind.u64.wrap (bits .or .u64 0 (IntKind.u64.wrap (b0.toNat : Int)) * 256)) (IntKind.u64.wrap (b1.toNat : Int)) * 256)) (IntKind.u64.wrap (b2.toNat : Int)) * 256)) (IntKind.u64.wrap (b3.toNat : Int)) * 256)) (IntKind.u64.wrap (b4.toNat : Int)) * 256)) (IntKind.u64.wrap (b5.toNat : Int)) * 256)) (IntKind.u64.wrap (b6.toNat : Int)) * 256)) (IntKind.u64.wrap (b7.toNat : Int))
   = ((numN [b0,b1,b2,b3,b4,b5,b6,b7] : Nat) : Int):=by
 have h0:=b0.toNat_lt; have h1:=b1.toNat_lt; have h2:=b2.toNat_lt; have h3:=b3.toNat_lt
 have h4:=b4.toNat_lt; have h5:=b5.toNat_lt; have h6:=b6.toNat_lt
 rw [or_zero,or_step _ b1 (by omega),or_step _ b2 (by omega),or_step _ b3 (by omega),or_step _ b4 (by omega),or_step _ b5 (by omega),or_step _ b6 (by omega),or_step _ b7 (by omega)]
 simp [numN]
theorem ix0 (a b c d e f g h : Value) (w : World) : (Instr.index 24 (.agg #[a,b,c,d,e,f,g,h]) (.int .i64 0)).run Tryz.prog w = .ok a w:=by kernel_rfl
theorem ix1 (a b c d e f g h : Value) (w : World) : (Instr.index 24 (.agg #[a,b,c,d,e,f,g,h]) (.int .i64 1)).run Tryz.prog w = .ok b w:=by kernel_rfl
theorem ix2 (a b c d e f g h : Value) (w : World) : (Instr.index 24 (.agg #[a,b,c,d,e,f,g,h]) (.int .i64 2)).run Tryz.prog w = .ok c w:=by kernel_rfl
theorem ix3 (a b c d e f g h : Value) (w : World) : (Instr.index 24 (.agg #[a,b,c,d,e,f,g,h]) (.int .i64 3)).run Tryz.prog w = .ok d w:=by kernel_rfl
theorem ix4 (a b c d e f g h : Value) (w : World) : (Instr.index 24 (.agg #[a,b,c,d,e,f,g,h]) (.int .i64 4)).run Tryz.prog w = .ok e w:=by kernel_rfl
theorem ix5 (a b c d e f g h : Value) (w : World) : (Instr.index 24 (.agg #[a,b,c,d,e,f,g,h]) (.int .i64 5)).run Tryz.prog w = .ok f w:=by kernel_rfl
theorem ix6 (a b c d e f g h : Value) (w : World) : (Instr.index 24 (.agg #[a,b,c,d,e,f,g,h]) (.int .i64 6)).run Tryz.prog w = .ok g w:=by kernel_rfl
theorem ix7 (a b c d e f g h : Value) (w : World) : (Instr.index 24 (.agg #[a,b,c,d,e,f,g,h]) (.int .i64 7)).run Tryz.prog w = .ok h w:=by kernel_rfl
attribute [local go_sem] ix0 ix1 ix2 ix3 ix4 ix5 ix6 ix7
def NumPost (w : World) (x : Nat) (e : Ending) (w' : World) : Prop:=e = .returned (.int .u64 (x : Int))∧Below w.heap.size w w'
set_option maxRecDepth 100000 in
set_option maxHeartbeats 1000000 in
theorem number_any (n : Nm) (w : World) : Calls Tryz.prog 182 #[n.val] w (NumPost w (numN n.bytes)):=by
 go_enter Tryz.func182,Tryz.ntmps182
 go_wp2
 refine wp_loop_rounds 9 ?_
 iterate 9 (rw [rounds_succ]; go_wp2)
 go_ret
 exact ⟨ret_u (num_nest n.b0 n.b1 n.b2 n.b3 n.b4 n.b5 n.b6 n.b7),(Below.refl _ _).alloc (Nat.le_refl _) _⟩
def bt (v k : Nat) : UInt8:=UInt8.ofNat (v / 256 ^ k)
def ofN (v : Nat) : Nm:=⟨bt v 7,bt v 6,bt v 5,bt v 4,bt v 3,bt v 2,bt v 1,bt v 0⟩
theorem bt_val (v k p : Nat) (hp : 256 ^ k = p) : B (bt v k) = .int .u8 ((v : Int) / (p : Int) % 256):=by
 subst hp
 rw [Value.int.injEq]
 refine ⟨rfl,?_⟩
 simp [bt]
theorem bt_val0 (v : Nat) : B (bt v 0) = .int .u8 ((v : Int) % 256):=by
 simp [bt]
theorem ofN_val (v : Nat) : (ofN v).val = .agg #[.int .u8 ((v : Int) / 72057594037927936 % 256),.int .u8 ((v : Int) / 281474976710656 % 256),.int .u8 ((v : Int) / 1099511627776 % 256),.int .u8 ((v : Int) / 4294967296 % 256),.int .u8 ((v : Int) / 16777216 % 256),.int .u8 ((v : Int) / 65536 % 256),.int .u8 ((v : Int) / 256 % 256),.int .u8 ((v : Int) % 256)]:=by
 simp only [Nm.val,ofN]
 rw [bt_val v 7 72057594037927936 (by decide),bt_val v 6 281474976710656 (by decide),bt_val v 5 1099511627776 (by decide),bt_val v 4 4294967296 (by decide),bt_val v 3 16777216 (by decide),bt_val v 2 65536 (by decide),bt_val v 1 256 (by decide),bt_val0]
 rfl
def NmPost (w : World) (n : Nm) (e : Ending) (w' : World) : Prop:=e = .returned n.val∧Below w.heap.size w w'
set_option maxRecDepth 100000 in
set_option maxHeartbeats 1000000 in
theorem of_any (v : Nat) (w : World) : Calls Tryz.prog 127 #[.int .u64 (v : Int)] w (NmPost w (ofN v)):=by
 go_enter Tryz.func127,Tryz.ntmps127
 go_wp2
 refine bodyPost_ret (results_cell_row (g:=w.heap.size) rfl _ _ _ _ _ _ rfl (heap_alloc_new w _) Tryz.underlying24 rfl (by kernel_rfl)) rfl ⟨?_,(Below.refl _ _).alloc (Nat.le_refl _) _⟩
 rw [ofN_val]
end
section
open Go.RowKit
theorem info_byte : (Tryz.prog.info? 5).map (fun i => (i.zero,i.size,i.bytes)) = some (some (.int .u8 0),1,1):=by kernel_rfl
def RowPost (w : World) (e size n : Nat) (xs : List Value) (en : Ending) (w' : World) : Prop :=
 ∃ A c,en = .returned (.slice A n c)∧w'.ownsRow w.heap.size e size (.slice A n c) n xs∧Below w.heap.size w w'
set_option maxRecDepth 100000 in
set_option maxHeartbeats 1000000 in
theorem ext_any (A : Option Addr) (len c n : Nat) (xs : List Value) (w : World) (hl : xs.length = len) (hr : Rd w w.heap.size A xs) (h1 : ∀ u ∈ xs,u.oneCell' = true)
  (hlen : len≤140737488351232) (hn : n≤8) :
  Calls Tryz.prog 119 #[.slice A len c,.int .i64 n] w (RowPost w 5 1 len xs):=by
 obtain ⟨i0,hi,hz0,hz1,hz2⟩:=info_parts info_byte
 have hmk : ∀ W : World,(Instr.makeSlice 60 (.int .i64 (len : Int)) (.int .i64 ((len : Int) + (n : Int)))).run Tryz.prog W = .ok (.slice (some ⟨W.heap.size,0,none⟩) len (len + n)) (W.alloc (.cells (madeCells #[.int .u8 0] (len + n)) 5)):=fun W => by
  have:=run_make (P:=Tryz.prog) W 60 5 i0 (.int .u8 0) Tryz.underlying60 hi hz0 .i64 .i64 len (len + n) (by omega) (by omega) (by rw [hz2]; omega) (by omega)
  rw [this,hz1]
  simp only [Int.toNat_natCast,Nat.mul_one,Value.cells,show ((len : Int) + (n : Int)).toNat = len + n from by omega]
 have Hl:=Lib.hid hl; clear hl
 go_enter Tryz.func119,Tryz.ntmps119
 go_wp2_with (refine wpList_copy_splice rfl (.tmp 13) (.tmp 14) _ _ rfl 5 Tryz.underlying60 (by kernel_rfl) _ _ _ _ _ _ rfl rfl w.heap.size 0 (madeCells #[.int .u8 0] (len + n)).toList 5 ?h1 xs ?h2 ?h3 ?h4 h1 w.heap.size w ?h5 (Nat.le_refl _) ?_)
 case h1 => exact heap_alloc_new w _
 case h2 => have:=Hl.out; simp; omega
 case h3 =>
  intro hp
  obtain ⟨b,o,rfl,hb,hc⟩:=hr.cells (by rintro rfl; simp at hp)
  refine ⟨_,rfl,fun j v hv => ?_⟩
  rw [Addr.add_mid,World.cell?_alloc_lt _ _ _ hb]
  exact hc j v hv
 case h4 => have:=Hl.out; simp [size_madeCells]; omega
 case h5 => exact (Below.refl _ _).alloc (Nat.le_refl _) _
 intro w1 hg hb
 go_wp2
 go_ret
 refine ⟨_,_,rfl,⟨by have:=Hl.out; simp; omega,.inr ⟨_,_,_,rfl,Nat.le_refl _,hg.out,by omega,by unfold maxLen; omega,?_,?_⟩⟩,hb⟩
 ·have:=Hl.out
  simp [splice,size_madeCells]; omega
 ·have:=Hl.out
  subst this
  simp [splice]
set_option maxRecDepth 100000 in
set_option maxHeartbeats 1000000 in
theorem app0_any (A : Option Addr) (len c : Nat) (x : Int) (xs : List Value) (w : World) (hl : xs.length = len) (hr : Rd w w.heap.size A xs) (h1 : ∀ u ∈ xs,u.oneCell' = true)
  (hlen : len≤140737488351232) :
  Calls Tryz.prog 80 #[.slice A len c,.int .u64 x,.int .i64 0] w (RowPost w 5 1 len xs):=by
 have Hl:=Lib.hid hl; clear hl
 have HR:=Lib.hid hr; clear hr
 have H1:=Lib.hid h1; clear h1
 go_enter Tryz.func80,Tryz.ntmps80
 go_wp2_with fail
 refine (ext_any A len c 0 xs _ Hl.out HR.out H1.out hlen (by omega)).mono ?_
 rintro e w1 ⟨A1,c1,rfl,hown,hb⟩
 go_wp2_with fail
 refine wp_loop_rounds 1 ?_
 rw [rounds_succ]
 go_wp2
 go_ret
 exact ⟨A1,c1,rfl,hown,hb⟩
def byteAt (v : Nat) (k : Nat) : UInt8:=UInt8.ofNat (v / 256 ^ k)
theorem byteAt0 (v : Nat) : B (byteAt v 0) = .int .u8 ((v : Int) % 256):=by
 simp [byteAt]
theorem byteAt1 (v : Nat) : B (byteAt v 1) = .int .u8 ((v : Int) / 256 % 256):=by
 simp [byteAt]
theorem one_cell {u x : Value} (h : u ∈ [x]) (hx : x.oneCell' = true) : u.oneCell' = true:=by
 simp at h; subst h; exact hx
set_option maxRecDepth 100000 in
set_option maxHeartbeats 1000000 in
theorem app2_any (A : Option Addr) (len c v : Nat) (xs : List Value) (w : World) (hl : xs.length = len) (hr : Rd w w.heap.size A xs) (h1 : ∀ u ∈ xs,u.oneCell' = true)
  (hlen : len≤1000000) :
  Calls Tryz.prog 80 #[.slice A len c,.int .u64 v,.int .i64 2] w (RowPost w 5 1 (len + 2) (xs ++ [B (byteAt v 1),B (byteAt v 0)])):=by
 have Hl:=Lib.hid hl; clear hl
 have HR:=Lib.hid hr; clear hr
 have H1:=Lib.hid h1; clear h1
 go_enter Tryz.func80,Tryz.ntmps80
 go_wp2_with fail
 refine (ext_any A len c 2 xs _ Hl.out HR.out H1.out (by omega) (by omega)).mono ?_
 rintro e w1 ⟨A1,c1,rfl,hown,hb⟩
 go_wp2_with fail
 refine wp_loop_rounds 3 ?_
 rw [rounds_succ]
 go_wp2_with (at_builtin; refine wpList_app rfl (.tmp 21) (.tmp 27) _ rfl w.heap.size 5 (.int .u8 0) 1 1 Tryz.underlying60 info_byte rfl (by decide) _ len xs rfl (hown.alloc _) (w1.heap.size + 1) _ 1 1 [B (byteAt v 1)] rfl rfl ?r1 ?r2 ?r3 ?r4 ?r5 ?_)
 case r1 => rw [byteAt1]; exact Rd.one _ _ _
 case r2 => exact fun u hu => one_cell hu rfl
 case r3 => omega
 case r4 => unfold maxLen; omega
 case r5 => have:=hb.size; simp; omega
 intro v2 w2 hown2 hg2 hat2
 have hb2 : Below w.heap.size w w2:=below_own (hb.alloc hb.size _) (hown.alloc _) hg2
 clear hat2 hg2
 go_wp2
 rw [rounds_succ]
 go_wp2_with (at_builtin; refine wpList_app rfl (.tmp 21) (.tmp 27) _ rfl w.heap.size 5 (.int .u8 0) 1 1 Tryz.underlying60 info_byte rfl (by decide) _ (len + 1) (xs ++ [B (byteAt v 1)]) rfl (hown2.alloc _) (w2.heap.size + 1) _ 1 1 [B (byteAt v 0)] rfl rfl ?q1 ?q2 ?q3 ?q4 ?q5 ?_)
 case q1 => rw [byteAt0]; exact Rd.one _ _ _
 case q2 => exact fun u hu => one_cell hu rfl
 case q3 => omega
 case q4 => unfold maxLen; omega
 case q5 => have:=hb2.size; simp; omega
 intro v3 w3 hown3 hg3 hat3
 have hb3 : Below w.heap.size w w3:=below_own (hb2.alloc hb2.size _) (hown2.alloc _) hg3
 clear hat3 hg3
 go_wp2
 rw [rounds_succ]
 go_wp2
 go_ret
 obtain ⟨A3,c3,rfl⟩:=own_form hown3
 exact ⟨A3,c3,rfl,by simpa using hown3,hb3⟩
theorem app2_int (A : Option Addr) (len c : Nat) (x : Int) (xs : List Value) (w : World) (hl : xs.length = len) (hr : Rd w w.heap.size A xs) (h1 : ∀ u ∈ xs,u.oneCell' = true)
  (hlen : len≤1000000) (hx : 0≤x) :
  Calls Tryz.prog 80 #[.slice A len c,.int .u64 x,.int .i64 2] w (RowPost w 5 1 (len + 2) (xs ++ [B (byteAt x.toNat 1),B (byteAt x.toNat 0)])):=by
 obtain ⟨n,rfl⟩:=Int.eq_ofNat_of_zero_le hx
 exact app2_any A len c n xs w hl hr h1 hlen
theorem bytes_one {u : Value} {l : List UInt8} (h : u ∈ l.map B) : u.oneCell' = true:=by
 obtain ⟨b,_,rfl⟩:=List.mem_map.1 h
 rfl
end
section
open Go.RowKit
def byteI (n : Int) : UInt8:=UInt8.ofNat n.toNat
def enc5 (v : Vt) : List UInt8:=[byteI v.kind,byteI v.slot,byteI v.round,byteI v.choice,byteI v.signer]
def encB (v : Vt) : List UInt8:=[byteI v.kind,byteI v.slot,byteI v.round,byteI v.choice,byteI v.signer,byteAt v.support.toNat 1,byteAt v.support.toNat 0] ++ v.parent.bytes ++ v.value.bytes
theorem byteI_eq {n : Int} (h0 : 0≤n) (h1 : n≤255) : B (byteI n) = .int .u8 n:=by
 show Value.int .u8 _ = _
 rw [Value.int.injEq]
 refine ⟨rfl,?_⟩
 simp [byteI]; omega
theorem ValidP.bounds {v : Vt} (h : ValidP v) : (0≤v.kind∧v.kind≤7)∧(0≤v.slot∧v.slot≤9)∧(0≤v.round∧v.round≤12)∧(0≤v.choice∧v.choice≤2)∧(0≤v.signer∧v.signer≤9)∧(0≤v.support∧v.support≤1023):=by
 obtain ⟨h1,h2,_,h4,h5,h6,h7,h8⟩:=h
 omega
def RowTrue (w : World) (e size n : Nat) (xs : List Value) (en : Ending) (w' : World) : Prop :=
 ∃ A c,en = .returned (.tuple #[.slice A n c,.bool true])∧w'.ownsRow w.heap.size e size (.slice A n c) n xs∧Below w.heap.size w w'
def RowFalse (w : World) (en : Ending) (w' : World) : Prop:=en = .returned (.tuple #[.slice none 0 0,.bool false])∧Below w.heap.size w w'
theorem valid_yes (v : Vt) (w : World) (hv : v.ok) (hy : ValidP v) : Calls Tryz.prog 49 #[v.val] w fun e w' => e = .returned (.bool true)∧Below w.heap.size w w' :=
 (valid_any v w hv).mono fun _ _ h => ⟨by rw [h.1,decide_eq_true hy],h.2⟩
theorem valid_no (v : Vt) (w : World) (hv : v.ok) (hy : ¬ ValidP v) : Calls Tryz.prog 49 #[v.val] w fun e w' => e = .returned (.bool false)∧Below w.heap.size w w' :=
 (valid_any v w hv).mono fun _ _ h => ⟨by rw [h.1,decide_eq_false hy],h.2⟩
theorem size_vote : (Tryz.prog.info? 46).map (·.size) = some 22:=by kernel_rfl
set_option maxRecDepth 100000 in
set_option maxHeartbeats 1000000 in
theorem venc_yes (v : Vt) (w : World) (hv : v.ok) (hy : ValidP v) : Calls Tryz.prog 165 #[v.val] w (RowTrue w 5 1 23 ((encB v).map B)):=by
 obtain ⟨⟨b1,b1'⟩,⟨b2,b2'⟩,⟨b3,b3'⟩,⟨b4,b4'⟩,⟨b5,b5'⟩,⟨b6,b6'⟩⟩:=hy.bounds
 have Hy:=Lib.hid hy; clear hy
 have hmk : ∀ W : World,(Instr.makeSlice 60 (.int .i64 0) (.int .i64 23)).run Tryz.prog W = .ok (.slice (some ⟨W.heap.size,0,none⟩) 0 23) (W.alloc (.cells (Array.replicate 23 (.int .u8 0)) 5)):=fun W => by kernel_rfl
 go_enter Tryz.func165,Tryz.ntmps165
 go_wp2_with (refine wpList_load_row rfl 46 _ rfl w.heap.size rfl 46 v.cells (0,0) _ (heap_alloc_new w _) Tryz.underlying46 rfl size_vote ?_)
 refine (valid_yes v _ hv Hy.out).mono ?_
 rintro e w1 ⟨rfl,hb⟩
 have hB1 : Blk w1 w.heap.size 46 v.cells:=(Blk.new w _ _).below hb (by simp)
 have hb1 : Below w.heap.size w w1:=((Below.refl _ _).alloc (Nat.le_refl _) _).trans (hb.mono (by simp))
 clear hb
 have hlt : w.heap.size < w1.heap.size:=hB1.lt
 have c0 : w1.cell? ⟨w.heap.size,0,none⟩ = some (I v.kind):=hB1.cell 0
 have c1 : w1.cell? ⟨w.heap.size,1,none⟩ = some (I v.slot):=hB1.cell 1
 have c2 : w1.cell? ⟨w.heap.size,2,none⟩ = some (I v.round):=hB1.cell 2
 have c3 : w1.cell? ⟨w.heap.size,3,none⟩ = some (I v.choice):=hB1.cell 3
 have c4 : w1.cell? ⟨w.heap.size,4,none⟩ = some (I v.signer):=hB1.cell 4
 have c5 : w1.cell? ⟨w.heap.size,5,none⟩ = some (I v.support):=hB1.cell 5
 go_wp2_with (at_builtin; refine wpList_app rfl (.tmp 9) (.tmp 25) _ rfl w.heap.size 5 (.int .u8 0) 1 1 Tryz.underlying60 info_byte rfl (by decide) (.slice (some ⟨w1.heap.size,0,none⟩) 0 23) 0 [] rfl ?r0 (w1.heap.size + 2) _ 5 5 ((enc5 v).map B) rfl rfl ?r1 ?r2 ?r3 ?r4 ?r5 ?_)
 case r0 => exact World.ownsRow.alloc (World.ownsRow_made _ _ 23 hb1.size (by unfold maxLen; omega) (by simp)) _
 case r1 =>
  have h:=Rd.of_blk (Blk.new (w1.alloc (Obj.cells (Array.replicate 23 (Value.int IntKind.u8 0)) 5)) 5 #[B (byteI v.kind),B (byteI v.slot),B (byteI v.round),B (byteI v.choice),B (byteI v.signer)]) 0 5
  rw [byteI_eq b1 (by omega),byteI_eq b2 (by omega),byteI_eq b3 (by omega),byteI_eq b4 (by omega),byteI_eq b5 (by omega)] at h
  simp only [enc5,List.map_cons,List.map_nil,byteI_eq b1 (show v.kind≤255 by omega),byteI_eq b2 (show v.slot≤255 by omega),byteI_eq b3 (show v.round≤255 by omega),byteI_eq b4 (show v.choice≤255 by omega),byteI_eq b5 (show v.signer≤255 by omega)]
  simpa using h
 case r2 => exact fun u hu => bytes_one hu
 case r3 => omega
 case r4 => unfold maxLen; omega
 case r5 => have:=hb1.size; simp; omega
 intro v2 w2 hown2 hg2 hat2
 have hB2 : Blk w2 w.heap.size 46 v.cells:=((hB1.alloc _).alloc _).kept hg2 (by simp [Value.ownBlock]; omega)
 have hb2 : Below w.heap.size w w2:=(((hb1.alloc hb1.size _).alloc (by have:=hb1.size; simp; omega) _)).grown hg2 (by have:=hb1.size; simp; omega) (by simp [Value.ownBlock]; have:=hb1.size; omega)
 clear hg2 hat2 c0 c1 c2 c3 c4 c5 hlt hB1 hb1 hmk
 obtain ⟨A2,c2,rfl⟩:=own_form hown2
 have c5 : w2.cell? ⟨w.heap.size,5,none⟩ = some (I v.support):=hB2.cell 5
 go_wp2_with fail
 refine (app2_int A2 5 c2 v.support _ w2 (by simp [enc5]) (Rd.of_own hown2) (fun u hu => bytes_one hu) (by omega) b6).mono ?_
 rintro e w3 ⟨A3,c3,rfl,hown3,hb3'⟩
 have hB3 : Blk w3 w.heap.size 46 v.cells:=hB2.below hb3' hB2.lt
 have hb3 : Below w.heap.size w w3:=hb2.trans (hb3'.mono hb2.size)
 replace hown3:=own_base hown3 hb2.size
 clear hb3' hB2 hb2 hown2 c5
 have hlt3:=hB3.lt
 go_wp2_with (at_builtin; refine wpList_app rfl (.tmp 32) (.tmp 34) _ rfl w.heap.size 5 (.int .u8 0) 1 1 Tryz.underlying60 info_byte rfl (by decide) _ 7 ((enc5 v).map B ++ [B (byteAt v.support.toNat 1),B (byteAt v.support.toNat 0)]) rfl ?q0 (w3.heap.size) _ 8 8 (v.parent.bytes.map B) rfl rfl ?q1 ?q2 ?q3 ?q4 ?q5 ?_)
 case q0 => exact hown3
 case q1 => exact Rd.of_blk hB3 6 8
 case q2 => exact fun u hu => bytes_one hu
 case q3 => omega
 case q4 => unfold maxLen; omega
 case q5 => exact hb3.size
 intro v4 w4 hown4 hg4 hat4
 have hB4 : Blk w4 w.heap.size 46 v.cells:=hB3.kept hg4 (own_ne hown3 hB3 (by decide))
 have hb4 : Below w.heap.size w w4:=below_own hb3 hown3 hg4
 clear hg4 hat4 hB3 hb3 hown3 hlt3
 have hlt4:=hB4.lt
 go_wp2_with (at_builtin; refine wpList_app rfl (.tmp 36) (.tmp 38) _ rfl w.heap.size 5 (.int .u8 0) 1 1 Tryz.underlying60 info_byte rfl (by decide) _ (7 + 8) (((enc5 v).map B ++ [B (byteAt v.support.toNat 1),B (byteAt v.support.toNat 0)]) ++ v.parent.bytes.map B) rfl ?p0 (w4.heap.size) _ 8 8 (v.value.bytes.map B) rfl rfl ?p1 ?p2 ?p3 ?p4 ?p5 ?_)
 case p0 => exact hown4
 case p1 => exact Rd.of_blk hB4 14 8
 case p2 => exact fun u hu => bytes_one hu
 case p3 => omega
 case p4 => unfold maxLen; omega
 case p5 => exact hb4.size
 intro v5 w5 hown5 hg5 hat5
 have hb5 : Below w.heap.size w w5:=below_own hb4 hown4 hg5
 clear hg5 hat5 hB4 hb4 hown4 hlt4
 obtain ⟨A5,c5,rfl⟩:=own_form hown5
 go_wp2
 go_ret2
 refine ⟨A5,c5,rfl,?_,hb5⟩
 have e : (encB v).map B = ((((enc5 v).map B ++ [B (byteAt v.support.toNat 1),B (byteAt v.support.toNat 0)]) ++ v.parent.bytes.map B) ++ v.value.bytes.map B):=by simp [encB,enc5]
 rw [e]
 exact hown5
end
end Go.Proofs.YtadllffeoibelaaGreat
