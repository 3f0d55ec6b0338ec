/- Short names for a few lemmas. -/
import Derived.Lib.Hide
set_option linter.defProp false
set_option linter.unusedVariables false
set_option linter.unusedSimpArgs false
namespace Go.Proofs.YtkijckccfookeaaDoor
open Go.RowKit
theorem hd0 {p:Prop} (h:p):Go.RowKit.Hid p:=Go.Lib.hid h
theorem ai (n:Nat):n<=n:=Nat.le_refl n
theorem nt {a b c:Nat} (h:a<=b)(k:b<=c):a<=c:=Nat.le_trans h k
theorem la {α:Type _} {a b:List α}:(a++b).length=a.length+b.length:=List.length_append
theorem aV {α:Type _} {a:α} {b:List α}:(a::b).length=b.length+1:=List.length_cons
theorem ln {α:Type _}:([]:List α).length=0:=List.length_nil
theorem nz (n:Nat):0<=n:=Nat.zero_le n
theorem aW {α:Type _} (a b:List α):(a++b).length<=a.length+b.length:=by rw[List.length_append];exact Nat.le_refl _
def agE:=@Below.refl
def agF:=@List.mem_singleton
def agG:=@List.getElem?_eq_some_iff
def agH:=@List.getElem?_eq_getElem
def agI:=@Array.getElem?_eq_some_iff
def agJ:=@List.mem_append
def agK:=@List.take_length
def agL:=@List.length_map
def agM:=@List.mem_of_getElem?
def agN:=@Nat.lt_of_lt_of_le
def agO:=@List.map_cons
def agP:=@List.getElem?_cons_zero
def agQ:=@List.mem_cons
def agR:=@List.append_assoc
def agS:=@List.getElem?_cons_succ
def agT:=@List.take_succ_eq_append_getElem
def agU:=@List.cons_append
def agV:=@List.flatMap_cons
def agW:=@List.take_of_length_le
def agX:=@List.mem_iff_getElem?
def agY:=@List.length_take
def agZ:=@List.getElem?_append_right
def ag0:=@List.getElem?_append_left
def ag1:=@Bool.and_eq_true
def ag2:=@List.getElem?_eq_none
def ag3:=@Option.some.injEq
def ag4:=@List.foldl_cons
def ag5:=@List.getElem?_map
def ag6:=@List.getElem?_take
def ag7:=@List.mem_map
def ag8:=@List.append_nil
def ag9:=@List.take_append_drop
def aha:=@List.flatMap_append
def ahb:=@List.not_mem_nil
def ahc:=@List.all_eq_true
def ahd:=@List.nil_append
def ahe:=@List.mem_flatMap
def ahf:=@Nat.le_of_lt
def ahg:=@List.take_add_one
def ahh:=@Nat.zero_add
def ahi:=@Nat.mul_le_mul_right
def ahj:=@List.flatMap_nil
def ahk:=@List.map_nil
def ahl:=@Prod.mk.injEq
def ahm:=@List.length_set
def ahn:=@List.getElem?_set
def aho:=@List.length_pos_iff
def ahp:=@List.cons.injEq
def ahq:=@Nat.add_mul
def ahr:=@Value.slice.injEq
def ahs:=@decide_eq_true_eq
end Go.Proofs.YtkijckccfookeaaDoor
