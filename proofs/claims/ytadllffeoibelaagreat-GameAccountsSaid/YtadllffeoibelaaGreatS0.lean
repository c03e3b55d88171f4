/-
  Short names of lemmas of the library. No condition.
-/
import Derived.Lib.Hide
import Derived.WalkKit
import Derived.Below
namespace Go.Proofs.YtadllffeoibelaaGreat
open Go.RowKit
abbrev AA:=@Lib.hid
abbrev AB:=@Nat.le_refl
abbrev AC:=@Below.refl
abbrev AF:=@List.length_append
abbrev AD:=@List.getElem?_eq_getElem
abbrev AG:=@Nat.le_trans
abbrev AE:=@List.getElem?_eq_some_iff
abbrev AM:=@List.mem_of_getElem?
abbrev AV:=@List.eq_nil_of_length_eq_zero
abbrev AT:=@List.take_of_length_le
abbrev Aa:=@Array.getElem?_eq_some_iff
abbrev AZ:=@List.length_take
abbrev Af:=@List.flatMap_append
abbrev AQ:=@List.getElem?_map
abbrev Ae:=@List.map_append
abbrev AP:=@List.mem_append
abbrev AU:=@List.mem_singleton
abbrev An:=@List.take_append_drop
abbrev Ah:=@List.length_cons
abbrev AX:=@List.length_map
abbrev BI:=@IntWalk.i64_in
abbrev Ai:=@List.take_add_one
abbrev BX:=@Option.toList_some
abbrev BF:=@List.mem_cons_self
abbrev BW:=@List.mem_append_left
abbrev Bc:=@List.mem_append_right
abbrev BP:=@List.getElem?_take
theorem ZH{a:Type _}(x:a):∃y,y=x:=⟨x,rfl⟩
theorem ZI{a:Type _}(x:a):∃y,x=y:=⟨x,rfl⟩
theorem ZJ{a:Type _}{x:a}{P:a->Prop}(h:P x):∀y,some x=some y->P y:=by rintro _ ⟨⟩;exact h
theorem ZK{a b:Nat}(h:a<b):decide ((a:Int)<(b:Int))=true:=by simp;omega
theorem ZL{a b:Nat}(h:b<=a):decide ((a:Int)<(b:Int))=false:=by simp;omega
abbrev ZN(w x:World):Prop:=Below w.heap.size w x
end Go.Proofs.YtadllffeoibelaaGreat
