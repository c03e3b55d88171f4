/-
  Short names of lemmas of the library. No condition.
-/
import Derived.Lib.Hide
import Derived.WalkKit
import Derived.Below
namespace Go.Proofs.YtadllffeoibelaaGreat
open Go.RowKit
abbrev AA:=@Lib.hid
abbrev AB:=@Nat.le_refl
abbrev AC:=@Below.refl
abbrev AI:=@List.length_append
abbrev AE:=@List.getElem?_eq_getElem
abbrev AF:=@Nat.le_trans
abbrev AG:=@List.getElem?_eq_some_iff
abbrev AM:=@List.mem_of_getElem?
abbrev AV:=@List.eq_nil_of_length_eq_zero
abbrev AT:=@List.take_of_length_le
abbrev Aa:=@Array.getElem?_eq_some_iff
abbrev AZ:=@List.length_take
abbrev Ad:=@List.flatMap_append
abbrev AU:=@List.getElem?_map
abbrev Ac:=@List.map_append
abbrev AP:=@List.mem_append
abbrev AR:=@List.mem_singleton
abbrev Aj:=@List.take_append_drop
abbrev Af:=@List.length_cons
abbrev AY:=@List.length_map
abbrev DE:=@IntWalk.i64_in
abbrev Ag:=@List.take_add_one
abbrev BE:=@Option.toList_some
abbrev BB:=@List.mem_cons_self
abbrev BS:=@List.mem_append_left
abbrev BU:=@List.mem_append_right
abbrev Bf:=@List.getElem?_take
end Go.Proofs.YtadllffeoibelaaGreat
