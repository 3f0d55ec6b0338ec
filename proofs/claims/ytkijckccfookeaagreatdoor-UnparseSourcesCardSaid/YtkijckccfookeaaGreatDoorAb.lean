/- Short names for a few lemmas. -/
import Derived.Lib.Hide
set_option linter.defProp false
set_option linter.unusedVariables false
set_option linter.unusedSimpArgs false
namespace Go.Proofs.YtkijckccfookeaaGreatDoor
open Go.RowKit
theorem hd0 {p:Prop} (h:p):Go.RowKit.Hid p:=Go.Lib.hid h
theorem nr (n:Nat):n<=n:=Nat.le_refl n
theorem nt {a b c:Nat} (h:a<=b)(k:b<=c):a<=c:=Nat.le_trans h k
theorem la {α:Type _} {a b:List α}:(a++b).length=a.length+b.length:=List.length_append
theorem aF {α:Type _} {a:α} {b:List α}:(a::b).length=b.length+1:=List.length_cons
theorem ln {α:Type _}:([]:List α).length=0:=List.length_nil
theorem nz (n:Nat):0<=n:=Nat.zero_le n
theorem bf {α:Type _} (a b:List α):(a++b).length<=a.length+b.length:=by rw[List.length_append];exact Nat.le_refl _
def akl:=@Below.refl
def akm:=@List.mem_singleton
def akn:=@List.getElem?_eq_some_iff
def ako:=@List.getElem?_eq_getElem
def akp:=@Array.getElem?_eq_some_iff
def akq:=@List.mem_append
def akr:=@List.take_length
def aks:=@List.length_map
def akt:=@List.mem_of_getElem?
def aku:=@Nat.lt_of_lt_of_le
def akv:=@List.map_cons
def akw:=@List.getElem?_cons_zero
def akx:=@List.mem_cons
def aky:=@List.append_assoc
def akz:=@List.getElem?_cons_succ
def akA:=@Nat.le_add_right
def akB:=@List.take_succ_eq_append_getElem
def akC:=@List.cons_append
def akD:=@List.flatMap_cons
def akE:=@List.take_of_length_le
def akF:=@Nat.add_le_add_right
def akG:=@List.mem_iff_getElem?
def akH:=@List.length_take
def akI:=@List.getElem?_append_right
def akJ:=@List.getElem?_append_left
def akK:=@Bool.and_eq_true
def akL:=@List.getElem?_eq_none
def akM:=@Option.some.injEq
def akN:=@List.foldl_cons
def akO:=@List.getElem?_map
def akP:=@List.getElem?_take
def akQ:=@List.mem_map
def akR:=@List.append_nil
def akS:=@List.take_append_drop
def akT:=@List.flatMap_append
def akU:=@List.drop_eq_nil_of_le
def akV:=@List.not_mem_nil
def akW:=@List.all_eq_true
def akX:=@List.nil_append
def akY:=@List.map_append
def akZ:=@List.mem_flatMap
def ak0:=@List.length_drop
def ak1:=@Nat.le_of_lt
def ak2:=@List.take_add_one
def ak3:=@Nat.zero_add
def ak4:=@List.sum_cons
def ak5:=@List.flatMap_nil
def ak6:=@List.map_map
def ak7:=@Nat.add_assoc
def ak8:=@List.foldl_append
def ak9:=@List.map_nil
def ala:=@Except.ok.injEq
def alb:=@Prod.mk.injEq
def alc:=@List.length_set
def ald:=@List.getElem?_set
def ale:=@List.length_pos_iff
def alf:=@List.cons.injEq
def alg:=@Nat.add_mul
def alh:=@Value.slice.injEq
def ali:=@decide_eq_true_eq
end Go.Proofs.YtkijckccfookeaaGreatDoor
