/- Short names for a few lemmas. -/
import Derived.Lib.Hide
set_option linter.defProp false
set_option linter.unusedVariables false
set_option linter.unusedSimpArgs false
namespace Go.Proofs.YtkijckccfookeaaGreatDoor
open Go.RowKit
theorem hd0 {p:Prop} (h:p):Go.RowKit.Hid p:=Go.Lib.hid h
theorem ag (n:Nat):n<=n:=Nat.le_refl n
theorem nt {a b c:Nat} (h:a<=b)(k:b<=c):a<=c:=Nat.le_trans h k
theorem az {α:Type _} {a b:List α}:(a++b).length=a.length+b.length:=List.length_append
theorem ay {α:Type _} {a:α} {b:List α}:(a::b).length=b.length+1:=List.length_cons
theorem ln {α:Type _}:([]:List α).length=0:=List.length_nil
theorem nz (n:Nat):0<=n:=Nat.zero_le n
theorem ax {α:Type _} (a b:List α):(a++b).length<=a.length+b.length:=by rw[List.length_append];exact Nat.le_refl _
def aqk:=@Below.refl
def aql:=@List.mem_singleton
def aqm:=@List.getElem?_eq_some_iff
def aqn:=@List.getElem?_eq_getElem
def aqo:=@Array.getElem?_eq_some_iff
def aqp:=@List.mem_append
def aqr:=@List.take_length
def aqs:=@List.length_map
def aqt:=@List.mem_of_getElem?
def aqu:=@Nat.lt_of_lt_of_le
def aqv:=@List.map_cons
def aqw:=@List.getElem?_cons_zero
def aqx:=@List.mem_cons
def aqy:=@List.append_assoc
def aqz:=@List.getElem?_cons_succ
def aqA:=@Nat.le_add_right
def aqB:=@List.take_succ_eq_append_getElem
def aqC:=@List.cons_append
def aqD:=@List.flatMap_cons
def aqE:=@List.take_of_length_le
def aqF:=@Nat.add_le_add_right
def aqG:=@List.mem_iff_getElem?
def aqH:=@List.length_take
def aqI:=@List.getElem?_append_right
def aqJ:=@List.getElem?_append_left
def aqK:=@Bool.and_eq_true
def aqL:=@List.getElem?_eq_none
def aqM:=@Option.some.injEq
def aqN:=@List.foldl_cons
def aqO:=@List.getElem?_map
def aqP:=@List.getElem?_take
def aqQ:=@List.mem_map
def aqR:=@List.append_nil
def aqS:=@List.take_append_drop
def aqT:=@List.flatMap_append
def aqU:=@List.drop_eq_nil_of_le
def aqV:=@List.not_mem_nil
def aqW:=@List.all_eq_true
def aqX:=@List.nil_append
def aqY:=@List.map_append
def aqZ:=@List.mem_flatMap
def aq0:=@List.length_drop
def aq1:=@List.take_add_one
def aq2:=@Nat.zero_add
def aq3:=@List.sum_cons
def aq4:=@List.flatMap_nil
def aq5:=@List.map_map
def aq6:=@Nat.add_assoc
def aq7:=@List.foldl_append
def aq8:=@List.foldl_nil
def aq9:=@List.map_nil
def ara:=@Except.ok.injEq
def arb:=@Prod.mk.injEq
def arc:=@List.cons.injEq
def ard:=@Nat.add_mul
def arf:=@Value.slice.injEq
def arh:=@decide_eq_true_eq
end Go.Proofs.YtkijckccfookeaaGreatDoor
