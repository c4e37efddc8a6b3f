/-
  The rows' own small kit: nodes.
-/
import Derived.Test.YtpgeogdmjgmimaaKO
import Derived.Test.YtpgeogdmjgmimaaW13
import Derived.KernelRfl
set_option linter.unusedVariables false
set_option linter.unusedSimpArgs false
set_option maxRecDepth 100000
namespace Go.Proofs.Ytpgeogdmjgmimaa
open Go Go.RowKit Go.WideShapes Go.ChangeShapes K
section
variable {H : Type} {enc : TypeId × Value → H} {W : World} {base : Nat} {sp : Nat → Bool} {held : Bool}
def NdR (n : Pl.Nd) : Prop := (-9223372036854775808 ≤ n.mode ∧ n.mode ≤ 9223372036854775807) ∧ (-9223372036854775808 ≤ n.uid ∧ n.uid ≤ 9223372036854775807) ∧ (-9223372036854775808 ≤ n.gid ∧ n.gid ≤ 9223372036854775807) ∧ (-9223372036854775808 ≤ n.mtime ∧ n.mtime ≤ 9223372036854775807)
theorem dec_nd : Dec enc Try.prog W base sp held 32 ndCells NdR := by
  intro fuel cs x h
  obtain ⟨xs, m, _, _, hl, hlen, hf⟩ := DataW.trod_struct Try.underlying32 h
  have hl' : cs.length = 8 := hl.trans (by kernel_rfl)
  have hlen' : xs.length = 8 := hlen
  have g0 := hf 0 _ rfl
  rw [List.getElem?_eq_getElem (by omega)] at g0
  have c0 : Try.prog.cellsOf 9 = 1 := by kernel_rfl
  obtain ⟨v0, e0⟩ := str_cell Try.underlying9 g0
  have p0 : (cs.drop 0).take (Try.prog.cellsOf 9) = [str v0] := e0
  rw [c0] at p0
  have q0 := take1 p0
  have g1 := hf 1 _ rfl
  rw [List.getElem?_eq_getElem (by omega)] at g1
  have c1 : Try.prog.cellsOf 9 = 1 := by kernel_rfl
  obtain ⟨v1, e1⟩ := str_cell Try.underlying9 g1
  have p1 : (cs.drop 1).take (Try.prog.cellsOf 9) = [str v1] := e1
  rw [c1] at p1
  have q1 := take1 p1
  have g2 := hf 2 _ rfl
  rw [List.getElem?_eq_getElem (by omega)] at g2
  have c2 : Try.prog.cellsOf 5 = 1 := by kernel_rfl
  obtain ⟨v2, e2⟩ := u8_cell Try.underlying5 g2
  have p2 : (cs.drop 2).take (Try.prog.cellsOf 5) = [u8 v2] := e2
  rw [c2] at p2
  have q2 := take1 p2
  have g3 := hf 3 _ rfl
  rw [List.getElem?_eq_getElem (by omega)] at g3
  have c3 : Try.prog.cellsOf 3 = 1 := by kernel_rfl
  obtain ⟨v3, e3, r3⟩ := i64_cell Try.underlying3 g3
  have p3 : (cs.drop 3).take (Try.prog.cellsOf 3) = [.int .i64 v3] := e3
  rw [c3] at p3
  have q3 := take1 p3
  have g4 := hf 4 _ rfl
  rw [List.getElem?_eq_getElem (by omega)] at g4
  have c4 : Try.prog.cellsOf 3 = 1 := by kernel_rfl
  obtain ⟨v4, e4, r4⟩ := i64_cell Try.underlying3 g4
  have p4 : (cs.drop 4).take (Try.prog.cellsOf 3) = [.int .i64 v4] := e4
  rw [c4] at p4
  have q4 := take1 p4
  have g5 := hf 5 _ rfl
  rw [List.getElem?_eq_getElem (by omega)] at g5
  have c5 : Try.prog.cellsOf 3 = 1 := by kernel_rfl
  obtain ⟨v5, e5, r5⟩ := i64_cell Try.underlying3 g5
  have p5 : (cs.drop 5).take (Try.prog.cellsOf 3) = [.int .i64 v5] := e5
  rw [c5] at p5
  have q5 := take1 p5
  have g6 := hf 6 _ rfl
  rw [List.getElem?_eq_getElem (by omega)] at g6
  have c6 : Try.prog.cellsOf 3 = 1 := by kernel_rfl
  obtain ⟨v6, e6, r6⟩ := i64_cell Try.underlying3 g6
  have p6 : (cs.drop 6).take (Try.prog.cellsOf 3) = [.int .i64 v6] := e6
  rw [c6] at p6
  have q6 := take1 p6
  have g7 := hf 7 _ rfl
  rw [List.getElem?_eq_getElem (by omega)] at g7
  have c7 : Try.prog.cellsOf 9 = 1 := by kernel_rfl
  obtain ⟨v7, e7⟩ := str_cell Try.underlying9 g7
  have p7 : (cs.drop 7).take (Try.prog.cellsOf 9) = [str v7] := e7
  rw [c7] at p7
  have q7 := take1 p7
  refine ⟨⟨v0, v1, v2, v3, v4, v5, v6, v7⟩, ?_, ⟨r3, r4, r5, r6⟩⟩
  apply List.ext_getElem?
  intro j
  match j with
  | 0 => exact q0
  | 1 => exact q1
  | 2 => exact q2
  | 3 => exact q3
  | 4 => exact q4
  | 5 => exact q5
  | 6 => exact q6
  | 7 => exact q7
  | k + 8 => rw [List.getElem?_eq_none (by omega), List.getElem?_eq_none (by show 8 ≤ k + 8; omega)]
theorem open_nd {r : Reach} {b0 : Nat} {v : Value} {d : DataW H} {ps : List MemPlace} (hv : Value.okWide Try.prog W r b0 32 v) (h : DataW.Trod enc Try.prog W base sp held 32 v d ps) : ∃ n : Pl.Nd, v = ndV n ∧ NdR n := by
  obtain ⟨cs, rfl, _⟩ := okWide_struct Try.underlying32 hv
  obtain ⟨fuel, hf⟩ := h
  obtain ⟨n, e, hn⟩ := dec_nd fuel _ _ hf
  refine ⟨n, ?_, hn⟩
  have e' : cs.toList = ndCells n := e
  show Value.agg cs = Value.agg (ndCells n).toArray
  rw [← e']
end
end Go.Proofs.Ytpgeogdmjgmimaa
