/- The contract of strings.Index at the separator of one byte 10. -/
import Derived.Test.YtccnogdfnikioaaDoorLeaf
import Derived.Lib.Bytealg
import Derived.Lib.IndexLaws
import Derived.Outline
namespace Go.Proofs.YtccnogdfnikioaaDoor
open Go.RowKit

theorem ix47 (s : ByteArray) (c : Int) (w : World) : (callFunc 47 #[.string s, .int .u8 c]).run Tryd.prog w = .ok (.value (.int .i64 (Lib.indexByte s.data.toList c.toNat.toUInt8))) w := by
  rw [run_callFunc_extern Tryd.func47 (by kernel_rfl) (by kernel_rfl) (by kernel_rfl) (e := Extern.BytealgIndexByte.indexByte) (by kernel_rfl), Lib.run_indexByteString]
  rfl
set_option maxRecDepth 100000 in
set_option maxHeartbeats 2000000 in
theorem index_ok (w : World) (s : B) : Calls Tryd.prog 39 #[.string ⟨s.toArray⟩, .string ⟨#[10]⟩] w fun e w' => e = .returned (.int .i64 (Lib.indexByte s 10)) ∧ w = w' := by
  have ix := ix47
  go_enter Tryd.func39, Tryd.ntmps39
  go_wp2
  · have h : ([10] == s) = true := by assumption
    have hs : [10] = s := by simpa using h
    go_ret
    refine ⟨?_, rfl⟩
    rw [← hs]
    rfl
  · go_ret
    exact ⟨rfl, rfl⟩
end Go.Proofs.YtccnogdfnikioaaDoor
