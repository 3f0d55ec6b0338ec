/- Short names for a few lemmas. -/
import Derived.Lib.Hide
set_option linter.defProp false
set_option linter.unusedVariables false
set_option linter.unusedSimpArgs false
namespace Go.Proofs.YtkijckccfookeaaDoor
open Go.RowKit
theorem hd0 {p:Prop} (h:p):Go.RowKit.Hid p:=Go.Lib.hid h
theorem ag (n:Nat):n<=n:=Nat.le_refl n
theorem nt {a b c:Nat} (h:a<=b)(k:b<=c):a<=c:=Nat.le_trans h k
theorem la {α:Type _} {a b:List α}:(a++b).length=a.length+b.length:=List.length_append
theorem lc {α:Type _} {a:α} {b:List α}:(a::b).length=b.length+1:=List.length_cons
theorem ln {α:Type _}:([]:List α).length=0:=List.length_nil
theorem nz (n:Nat):0<=n:=Nat.zero_le n
theorem YT {α:Type _} (a b:List α):(a++b).length<=a.length+b.length:=by rw[List.length_append];exact Nat.le_refl _
def aa0:=@Below.refl
def aa1:=@List.mem_singleton
def aa2:=@List.getElem?_eq_some_iff
def aa3:=@List.getElem?_eq_getElem
def aa4:=@Array.getElem?_eq_some_iff
def aa5:=@List.mem_append
def aa6:=@List.take_length
def aa7:=@List.length_map
def aa8:=@List.mem_of_getElem?
def aa9:=@Nat.lt_of_lt_of_le
def aba:=@List.map_cons
def abb:=@List.getElem?_cons_zero
def abd:=@List.mem_cons
def abe:=@List.append_assoc
def abf:=@List.getElem?_cons_succ
def abg:=@List.take_succ_eq_append_getElem
def abh:=@List.cons_append
def abj:=@List.flatMap_cons
def abk:=@List.mem_iff_getElem?
def abl:=@List.length_take
def abm:=@List.getElem?_append_right
def abn:=@List.getElem?_append_left
def abo:=@Bool.and_eq_true
def abp:=@List.getElem?_eq_none
def abq:=@Option.some.injEq
def abr:=@List.foldl_cons
def abt:=@List.getElem?_map
def abu:=@List.getElem?_take
def abv:=@List.mem_map
def abw:=@List.append_nil
def abx:=@List.take_append_drop
def aby:=@List.flatMap_append
def abz:=@List.drop_eq_nil_of_le
def abA:=@List.not_mem_nil
def abB:=@List.all_eq_true
def abC:=@List.nil_append
def abD:=@List.map_append
def abE:=@List.mem_flatMap
def abG:=@List.length_drop
def abH:=@Nat.le_of_lt
def abI:=@Nat.zero_add
def abJ:=@List.flatMap_nil
def abK:=@Nat.add_assoc
def abL:=@List.map_nil
def abM:=@Prod.mk.injEq
def abN:=@List.length_pos_iff
def abO:=@List.cons.injEq
def abP:=@Nat.add_mul
def abQ:=@Value.slice.injEq
end Go.Proofs.YtkijckccfookeaaDoor
