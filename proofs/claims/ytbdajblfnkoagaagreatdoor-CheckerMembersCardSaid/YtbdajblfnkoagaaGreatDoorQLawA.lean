/- Conditions of the laws: few, right, rowRight; stores of whole numbers into a row. -/
import Derived.Test.YtbdajblfnkoagaaGreatDoorQRefRow
set_option linter.unusedVariables false
set_option linter.unusedSimpArgs false
namespace Go.Vm
open Go Go.Am Go.Big
def fewB (m : List (List Int)) : Bool := (decide (m.length ≤ 4) || (decide (12 ≤ m.length) && decide (m.length ≤ 14))) && !(m.any fun r => decide (14 < r.length))
theorem fewF_ok (r : List Int) : CP Y F.schismalaw55_few_F1 [lst di r] (B (decide (14 < r.length))) := by
  refine schismalaw55_few_F1_i ?_
  simp (disch := first | omega | (simp <;> omega) | fail) [schismalaw55_few_F1]
  exact out_b (by simp; omega)
theorem few_ok {m : List (List Int)} : CP Y F.schismalaw55_few [mat m] (B (fewB m)) := by
  refine schismalaw55_few_i ?_
  by_cases h1 : m.length ≤ 4
  · simp (disch := first | omega | (simp <;> omega) | fail) [schismalaw55_few, h1]
    refine cd (containsMat_ok m (by omega) fun x _ => fewF_ok x) ?_ (by simp [snaps, mat])
    simp (disch := first | omega | (simp <;> omega) | fail) []
    exact out_b (by simp [fewB, h1])
  · by_cases h2 : 12 ≤ m.length
    · by_cases h3 : m.length ≤ 14
      · simp (disch := first | omega | (simp <;> omega) | fail) [schismalaw55_few, h1, h2, h3]
        refine cd (containsMat_ok m (by omega) fun x _ => fewF_ok x) ?_ (by simp [snaps, mat])
        simp (disch := first | omega | (simp <;> omega) | fail) []
        exact out_b (by simp [fewB, h1, h2, h3])
      · simp (disch := first | omega | (simp <;> omega) | fail) [schismalaw55_few, h1, h2, h3]
        exact out_b (by simp [fewB, h1, h2, h3])
    · simp (disch := first | omega | (simp <;> omega) | fail) [schismalaw55_few, h1, h2]
      exact out_b (by simp [fewB, h1, h2])
theorem fewB_len {m : List (List Int)} (h : fewB m = true) : m.length ≤ 14 ∧ ∀ r ∈ m, r.length ≤ 14 := by
  simp only [fewB, Bool.and_eq_true, Bool.or_eq_true, decide_eq_true_eq, Bool.not_eq_true', List.any_eq_false] at h
  refine ⟨by omega, fun r hr => ?_⟩
  have := h.2 r hr
  omega
theorem right_ok {m : List (List Int)} (hN : m.length < 1000000000000) (hl : ∀ r ∈ m, r.length < 1000000000000) : CP Y F.schismalaw55_right [mat m] (B (okMat m)) := by
  refine schismalaw55_right_i ?_
  simp (disch := first | omega | (simp <;> omega) | fail) [schismalaw55_right]
  refine cd (chk7_ok hN hl) ?_ (by simp [snaps, mat])
  simp (disch := first | omega | (simp <;> omega) | fail) []
  exact out_b (by rw [Bool.eq_iff_iff]; simpa using chk7_zero m)
theorem rowRightF_ok (n : Int) : CP Y F.schismalaw55_rowRight_F1 [I n] (B (!okEnt n)) := by
  refine schismalaw55_rowRight_F1_i ?_
  by_cases h : 1000000000 < n
  · simp (disch := first | omega | (simp <;> omega) | fail) [schismalaw55_rowRight_F1, h]
    exact out_b (by simp [okEnt]; omega)
  · simp (disch := first | omega | (simp <;> omega) | fail) [schismalaw55_rowRight_F1, h]
    exact out_b (by rw [Bool.eq_iff_iff]; simp [okEnt]; omega)
theorem rowRight_ok {r : List Int} (hr : r.length < 4611686018427387904) : CP Y F.schismalaw55_rowRight [lst di r] (B (okRow r)) := by
  refine schismalaw55_rowRight_i ?_
  simp (disch := first | omega | (simp <;> omega) | fail) [schismalaw55_rowRight]
  refine cd (containsRow_ok r hr fun n _ => rowRightF_ok n) ?_
  simp (disch := first | omega | (simp <;> omega) | fail) []
  exact out_b (by rw [Bool.eq_iff_iff]; simp [okRow])
theorem flat_set {α : Type} (f : α → List D) {n : Nat} (hf : ∀ x, (f x).length = n) (x : α) : ∀ (l : List α) (j : Nat), j < l.length → (l.flatMap f).take (j * n) ++ f x ++ (l.flatMap f).drop (j * n + n) = (l.set j x).flatMap f
  | [], j, h => by simp at h
  | y :: l, 0, h => by
    simp only [Nat.zero_mul, List.take_zero, List.nil_append, Nat.zero_add, List.flatMap_cons, List.set_cons_zero]
    rw [List.drop_left' (hf y)]
  | y :: l, j + 1, h => by
    have ih := flat_set f hf x l j (by simpa using h)
    have e1 : (j + 1) * n = (f y).length + j * n := by rw [hf, Nat.succ_mul, Nat.add_comm]
    simp only [List.flatMap_cons, List.set_cons_succ]
    rw [← ih, e1, Nat.add_assoc, List.take_length_add_append, List.drop_length_add_append, List.append_assoc, List.append_assoc, List.append_assoc]
theorem ldA_wc (b0 : Nat × Bk) (zs : List Int) (ex fr : Bool) {c L : Nat} (hL : L = (zs.flatMap wc).length) (hc : c < zs.length) : ldA [b0, (1, .data 2 (zs.flatMap wc) ex fr)] 2 (.ptr 1 1 (c * 2) L) = some (intW (nth 0 zs c)) := by
  have := cut_flat wc wc_len 0 zs hc
  rw [← wc_map]
  simp only [ldA, hget, List.getElem?_cons_succ, List.getElem?_cons_zero, if_true]
  rw [if_pos hL, this]
theorem st_wc (b0 : Nat × Bk) (zs : List Int) (z : Int) (ex : Bool) {c L : Nat} (hL : L = (zs.flatMap wc).length) (hc : c < zs.length) : st [b0, (1, .data 2 (zs.flatMap wc) ex false)] 2 (.ptr 1 1 (c * 2) L) (intW z) = some [b0, (1, .data 2 ((zs.set c z).flatMap wc) ex false)] := by
  have hfs := flat_set wc wc_len z zs c hc
  have hlen := flat_len wc wc_len zs
  have hle : c * 2 + 2 ≤ (zs.flatMap wc).length := by rw [hlen]; omega
  have e : wc z = [.bool (decide (z < 0)), .sl (len9 z.natAbs) ((dig Z z.natAbs).map i9)] := rfl
  rw [← hfs, e]
  simp only [st, intW, wh, nat9, lst, sto, hget, List.getElem?_cons_succ, List.getElem?_cons_zero, if_true, List.length_cons, List.length_nil, toDs, toD, norm, hset, true_and]
  rw [if_pos ⟨hL, hle⟩]
  rfl
end Go.Vm
