/-
  The rows' own small kit: from what the statement hands over to what the walks take.
-/
import Derived.Test.YtpgeogdmjgmimaaK4
set_option linter.unusedVariables false
set_option linter.unusedSimpArgs false
namespace Go.Proofs.Ytpgeogdmjgmimaa
open Go Go.RowKit
theorem u8_of {a : Int} (h : (Lit.int .u8 a).wf = true) : ∃ x : UInt8, a = (x.toNat : Int) := by
  have h' : 0 ≤ a ∧ a ≤ 255 := by
    have : (decide ((0 : Int) ≤ a) && decide (a ≤ 255)) = true := h
    simpa using this
  refine ⟨UInt8.ofNat a.toNat, ?_⟩
  rw [UInt8.toNat_ofNat', Nat.mod_eq_of_lt (by omega)]; omega
theorem i64_of {a : Int} (h : (Lit.int .i64 a).wf = true) : -9223372036854775808 ≤ a ∧ a ≤ 9223372036854775807 := by
  have : (decide ((-9223372036854775808 : Int) ≤ a) && decide (a ≤ 9223372036854775807)) = true := h
  simpa using this
theorem K.calls_of_C {P : Program} {k : FuncId} {args : List Value} {w : World} (h : K.C P k args w fun v w' => v = .bool true ∧ K.Kept w w') :
    Calls P k args.toArray w fun e w' => e = .returned (.bool true) ∧ Below w.heap.size w w' :=
  Calls.mono h fun e w' ⟨v, he, hv, hk⟩ => ⟨by rw [he, hv], hk⟩
end Go.Proofs.Ytpgeogdmjgmimaa
