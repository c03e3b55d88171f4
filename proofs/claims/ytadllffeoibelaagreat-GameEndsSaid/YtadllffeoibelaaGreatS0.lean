/-
  Short names of lemmas of the library. No condition.
-/
import Derived.Lib.Hide
import Derived.WalkKit
import Derived.Below
namespace Go.Proofs.YtadllffeoibelaaGreat
open Go.RowKit
abbrev AA:=@Lib.hid
abbrev AB:=@Nat.le_refl
abbrev AC:=@Below.refl
abbrev AI:=@List.length_append
abbrev AE:=@List.getElem?_eq_getElem
abbrev AG:=@Nat.le_trans
abbrev AF:=@List.getElem?_eq_some_iff
abbrev AN:=@List.mem_of_getElem?
abbrev AQ:=@List.eq_nil_of_length_eq_zero
abbrev AT:=@List.take_of_length_le
abbrev Aa:=@Array.getElem?_eq_some_iff
abbrev AZ:=@List.length_take
abbrev Af:=@List.flatMap_append
abbrev AV:=@List.getElem?_map
abbrev Ad:=@List.map_append
abbrev AP:=@List.mem_append
abbrev AM:=@List.mem_singleton
abbrev Aj:=@List.take_append_drop
abbrev Ag:=@List.length_cons
abbrev Ab:=@List.length_map
abbrev EV:=@IntWalk.i64_in
abbrev Ah:=@List.take_add_one
abbrev BF:=@Option.toList_some
abbrev Am:=@List.mem_cons_self
abbrev BB:=@List.mem_append_left
abbrev BY:=@List.mem_append_right
abbrev BT:=@List.getElem?_take
theorem Wr{a:Type _}(x:a):∃y,y=x:=⟨x,rfl⟩
theorem Ws{a:Type _}(x:a):∃y,x=y:=⟨x,rfl⟩
theorem Wt{a:Type _}{x:a}{P:a->Prop}(h:P x):∀y,some x=some y->P y:=by rintro _ ⟨⟩;exact h
theorem Wu{a b:Nat}(h:a<b):decide ((a:Int)<(b:Int))=true:=by simp;omega
theorem Wv{a b:Nat}(h:b<=a):decide ((a:Int)<(b:Int))=false:=by simp;omega
abbrev Wx(w x:World):Prop:=Below w.heap.size w x
end Go.Proofs.YtadllffeoibelaaGreat
