/- Conditions of the laws: few, right, rowRight; stores of whole numbers into a row. -/
import Derived.Test.YtbdajblfnkoagaaGreatDoorQRefRow
set_option linter.unusedVariables false
set_option linter.unusedSimpArgs false
namespace Go.Vm
open Go Go.Am Go.Big
theorem rowRightF_ok (n : Int) : CP Y F.schismalaw55_rowRight_F1 [I n] (B (!okEnt n)) := by
  refine schismalaw55_rowRight_F1_i ?_
  by_cases h : 1000000000 < n
  · simp (disch := first | omega | (simp <;> omega) | fail) [schismalaw55_rowRight_F1, h]
    exact out_b (by simp [okEnt]; omega)
  · simp (disch := first | omega | (simp <;> omega) | fail) [schismalaw55_rowRight_F1, h]
    exact out_b (by rw [Bool.eq_iff_iff]; simp [okEnt]; omega)
theorem rowRight_ok {r : List Int} (hr : r.length < 4611686018427387904) : CP Y F.schismalaw55_rowRight [lst di r] (B (okRow r)) := by
  refine schismalaw55_rowRight_i ?_
  simp (disch := first | omega | (simp <;> omega) | fail) [schismalaw55_rowRight]
  refine cd (containsRow_ok r hr fun n _ => rowRightF_ok n) ?_
  simp (disch := first | omega | (simp <;> omega) | fail) []
  exact out_b (by rw [Bool.eq_iff_iff]; simp [okRow])
theorem flat_set {α : Type} (f : α → List D) {n : Nat} (hf : ∀ x, (f x).length = n) (x : α) : ∀ (l : List α) (j : Nat), j < l.length → (l.flatMap f).take (j * n) ++ f x ++ (l.flatMap f).drop (j * n + n) = (l.set j x).flatMap f
  | [], j, h => by simp at h
  | y :: l, 0, h => by
    simp only [Nat.zero_mul, List.take_zero, List.nil_append, Nat.zero_add, List.flatMap_cons, List.set_cons_zero]
    rw [List.drop_left' (hf y)]
  | y :: l, j + 1, h => by
    have ih := flat_set f hf x l j (by simpa using h)
    have e1 : (j + 1) * n = (f y).length + j * n := by rw [hf, Nat.succ_mul, Nat.add_comm]
    simp only [List.flatMap_cons, List.set_cons_succ]
    rw [← ih, e1, Nat.add_assoc, List.take_length_add_append, List.drop_length_add_append, List.append_assoc, List.append_assoc, List.append_assoc]
end Go.Vm
