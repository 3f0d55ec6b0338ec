/- Short names for a few lemmas. -/
import Derived.Lib.Hide
set_option linter.defProp false
set_option linter.unusedVariables false
set_option linter.unusedSimpArgs false
namespace Go.Proofs.YtkijckccfookeaaGreatDoor
open Go.RowKit
theorem hd0 {p:Prop} (h:p):Go.RowKit.Hid p:=Go.Lib.hid h
theorem af (n:Nat):n<=n:=Nat.le_refl n
theorem nt {a b c:Nat} (h:a<=b)(k:b<=c):a<=c:=Nat.le_trans h k
theorem la {α:Type _} {a b:List α}:(a++b).length=a.length+b.length:=List.length_append
theorem aT {α:Type _} {a:α} {b:List α}:(a::b).length=b.length+1:=List.length_cons
theorem ln {α:Type _}:([]:List α).length=0:=List.length_nil
theorem nz (n:Nat):0<=n:=Nat.zero_le n
theorem bu {α:Type _} (a b:List α):(a++b).length<=a.length+b.length:=by rw[List.length_append];exact Nat.le_refl _
def ant:=@Below.refl
def anu:=@List.mem_singleton
def anv:=@List.getElem?_eq_some_iff
def anw:=@List.getElem?_eq_getElem
def anx:=@Array.getElem?_eq_some_iff
def anz:=@List.mem_append
def anA:=@List.take_length
def anB:=@List.length_map
def anC:=@List.mem_of_getElem?
def anD:=@Nat.lt_of_lt_of_le
def anE:=@List.map_cons
def anF:=@List.getElem?_cons_zero
def anG:=@List.mem_cons
def anH:=@List.append_assoc
def anI:=@List.getElem?_cons_succ
def anJ:=@Nat.le_add_right
def anK:=@List.take_succ_eq_append_getElem
def anL:=@List.cons_append
def anM:=@List.flatMap_cons
def anN:=@List.take_of_length_le
def anO:=@Nat.add_le_add_right
def anP:=@List.mem_iff_getElem?
def anQ:=@List.length_take
def anR:=@List.getElem?_append_right
def anS:=@List.getElem?_append_left
def anT:=@Bool.and_eq_true
def anU:=@List.getElem?_eq_none
def anV:=@Option.some.injEq
def anW:=@List.foldl_cons
def anX:=@List.getElem?_map
def anY:=@List.getElem?_take
def anZ:=@List.mem_map
def an0:=@List.append_nil
def an1:=@List.take_append_drop
def an2:=@List.flatMap_append
def an3:=@List.drop_eq_nil_of_le
def an4:=@List.not_mem_nil
def an5:=@List.all_eq_true
def an6:=@List.nil_append
def an7:=@List.map_append
def an8:=@List.mem_flatMap
def an9:=@List.length_drop
def aoa:=@Nat.le_of_lt
def aob:=@List.take_add_one
def aoc:=@Nat.zero_add
def aod:=@List.sum_cons
def aoe:=@List.flatMap_nil
def aof:=@List.map_map
def aog:=@Nat.add_assoc
def aoh:=@List.foldl_append
def aoi:=@List.map_nil
def aoj:=@Prod.mk.injEq
def aok:=@List.length_pos_iff
def aol:=@List.cons.injEq
def aom:=@Nat.add_mul
def aon:=@Value.slice.injEq
def aoo:=@decide_eq_true_eq
end Go.Proofs.YtkijckccfookeaaGreatDoor
