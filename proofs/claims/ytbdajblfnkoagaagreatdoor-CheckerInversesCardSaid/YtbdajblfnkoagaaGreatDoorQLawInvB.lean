/- CheckerInverses: the law. -/
import Derived.Test.YtbdajblfnkoagaaGreatDoorQCkInv
import Derived.Test.YtbdajblfnkoagaaGreatDoorQKnown
set_option linter.unusedVariables false
set_option linter.unusedSimpArgs false
namespace Go.Vm
open Go Go.Am Go.Big
theorem square_ok {x : List (List Int)} (hx : x.length < 1000000 ∧ ∀ r ∈ x, r.length < 1000000) : CP Y F.schismalaw55_CheckerInverses_F1 [mat x] (B (sqB x.length x)) := by
  refine schismalaw55_CheckerInverses_F1_i ?_
  have hr := right_ok (m := x) (by omega) (fun r hr => by have := hx.2 r hr; omega)
  simp (disch := first | omega | (simp <;> omega) | fail) [schismalaw55_CheckerInverses_F1]
  refine cd hr ?_ (by simp [snaps, mat])
  by_cases g1 : okMat x = true
  rotate_left
  · simp (disch := first | omega | (simp <;> omega) | fail) [g1]
    exact out_b (by simp [sqB, g1])
  by_cases g0 : x = []
  · have g0' := eq_true g0
    have e : sqB x.length x = true := by rw [g0]; rfl
    rw [e]
    simp (disch := first | omega | (simp <;> omega) | fail) [g1, g0']
  · have g0' := eq_false g0
    have gl : x.length ≠ 0 := fun h => g0 (List.eq_nil_of_length_eq_zero h)
    simp (disch := first | omega | (simp <;> omega) | fail) [g1, g0']
    refine out_b ?_
    have e : decide (x.length = 0) = false := by simpa using g0
    rw [nth_zero, Bool.eq_iff_iff]
    simp only [sqB, g1, e, Bool.true_and, Bool.false_or, decide_true]
    try simp
theorem idB_prod {a b : List (List Int)} {n : Nat} (ha : a.length = n) : idB (prodI a b n) = true ↔ ∀ i, i < n → ∀ k, k < n → dotI (nth [] a i) (colI k b) = kron i k := by
  have hl : (prodI a b n).length = n := by simp [prodI, ha]
  have hr : ∀ i, i < n → nth [] (prodI a b n) i = rowFrom (nth [] a i) b n 0 := fun i hi => by
    rw [nth_eq _ _ _ (by omega), nth_eq _ _ _ (by omega)]
    simp [prodI]
  unfold idB
  rw [hl, allFrom_iff]
  constructor
  · intro h i hi k hk
    have h1 := h i (by omega) (by omega)
    rw [hr i hi, rowFrom_len, allFrom_iff] at h1
    have h2 := h1 k (by omega) (by omega)
    rw [rowFrom_nth _ _ _ _ _ hk, Nat.zero_add] at h2
    simpa using h2
  · intro h i _ hi
    rw [hr i (by omega), rowFrom_len, allFrom_iff]
    intro k _ hk
    rw [rowFrom_nth _ _ _ _ _ (by omega), Nat.zero_add]
    simpa using h i (by omega) k (by omega)
theorem inv_law {m v : List (List Int)} (h1 : sqB m.length m = true) (h2 : sqB v.length v = true) (hl : m.length = v.length) : invB m v = (idB (prodI m v m.length) && idB (prodI v m v.length)) := by
  have h2' : sqB m.length v = true := by rw [hl]; exact h2
  rw [Bool.eq_iff_iff]
  simp only [invB, h1, h2', Bool.true_and, Bool.and_eq_true, allFrom_iff, okIK, decide_eq_true_eq]
  rw [idB_prod rfl, idB_prod rfl]
  constructor
  · intro h
    refine ⟨fun i hi k hk => (h i (by omega) (by omega) k (by omega) (by omega)).1, fun i hi k hk => (h i (by omega) (by omega) k (by omega) (by omega)).2⟩
  · rintro ⟨a, b⟩ i _ hi k _ hk
    exact ⟨a i (by omega) k (by omega), b i (by omega) k (by omega)⟩
theorem law_inverses (m v : List (List Int)) : CP Y F.schismalaw55_CheckerInverses [mat m, mat v] (B true) := by
  refine schismalaw55_CheckerInverses_i ?_
  have hkn := known_ok
  simp (disch := first | omega | (simp <;> omega) | fail) [schismalaw55_CheckerInverses]
  refine cd hkn ?_
  by_cases h1 : 4 < m.length
  · simp (disch := first | omega | (simp <;> omega) | fail) [h1]
    refine cd hkn ?_
    simp (disch := first | omega | (simp <;> omega) | fail) []
  by_cases h2 : 4 < v.length
  · simp (disch := first | omega | (simp <;> omega) | fail) [h1, h2]
    refine cd hkn ?_
    simp (disch := first | omega | (simp <;> omega) | fail) []
  simp (disch := first | omega | (simp <;> omega) | fail) [h1, h2]
  refine cd few_ok ?_ (by simp [snaps, mat])
  by_cases h3 : fewB m = true
  rotate_left
  · simp (disch := first | omega | (simp <;> omega) | fail) [h3]
    refine cd hkn ?_
    simp (disch := first | omega | (simp <;> omega) | fail) []
  simp (disch := first | omega | (simp <;> omega) | fail) [h3]
  refine cd few_ok ?_ (by simp [snaps, mat])
  by_cases h4 : fewB v = true
  rotate_left
  · simp (disch := first | omega | (simp <;> omega) | fail) [h4]
    refine cd hkn ?_
    simp (disch := first | omega | (simp <;> omega) | fail) []
  obtain ⟨f1, f2⟩ := fewB_len h3
  obtain ⟨g1, g2⟩ := fewB_len h4
  have hmb : m.length < 1000000 ∧ ∀ r ∈ m, r.length < 1000000 := ⟨by omega, fun r hr => by have := f2 r hr; omega⟩
  have hvb : v.length < 1000000 ∧ ∀ r ∈ v, r.length < 1000000 := ⟨by omega, fun r hr => by have := g2 r hr; omega⟩
  have hinv := inverse_ok hmb hvb
  simp (disch := first | omega | (simp <;> omega) | fail) [h4]
  refine cd (square_ok hmb) ?_ (by simp [snaps, mat])
  by_cases k1 : sqB m.length m = true
  rotate_left
  · have e : invB m v = false := by simp [invB, k1]
    rw [e] at hinv
    simp (disch := first | omega | (simp <;> omega) | fail) [k1]
    refine cd hinv ?_ (by simp [snaps, mat])
    simp (disch := first | omega | (simp <;> omega) | fail) []
  simp (disch := first | omega | (simp <;> omega) | fail) [k1]
  refine cd (square_ok hvb) ?_ (by simp [snaps, mat])
  by_cases k2 : sqB v.length v = true
  rotate_left
  · have e : invB m v = false := by
      have : sqB m.length v = false := by
        by_cases hl : v.length = m.length
        · rw [← hl]; simpa using k2
        · simp [sqB, hl]
      simp [invB, this]
    rw [e] at hinv
    simp (disch := first | omega | (simp <;> omega) | fail) [k1, k2]
    refine cd hinv ?_ (by simp [snaps, mat])
    simp (disch := first | omega | (simp <;> omega) | fail) []
  by_cases k3 : m.length = v.length
  rotate_left
  · have e : invB m v = false := by
      have : sqB m.length v = false := by
        have : decide (v.length = m.length) = false := by simp; omega
        simp only [sqB, this, Bool.and_false, Bool.false_and]
      simp [invB, this]
    rw [e] at hinv
    simp (disch := first | omega | (simp <;> omega) | fail) [k1, k2, k3]
    refine cd hinv ?_ (by simp [snaps, mat])
    simp (disch := first | omega | (simp <;> omega) | fail) []
  obtain ⟨r1, _, r3⟩ := sqB_rows k1
  obtain ⟨s1, _, s3⟩ := sqB_rows k2
  have i1 := identity_ok (a := m) (b := v) (n := m.length) r3 rfl k3.symm r1 (by rw [k3]; exact s1)
  have i2 := identity_ok (a := v) (b := m) (n := v.length) s3 rfl k3 s1 (by rw [← k3]; exact r1)
  rw [inv_law k1 k2 k3] at hinv
  have k3' : ((m.length : Int) = (v.length : Int)) = True := eq_true (by omega)
  simp (disch := first | omega | (simp <;> omega) | fail) [k1, k2, k3']
  refine cd i1 ?_ (by simp [snaps, mat])
  by_cases j1 : idB (prodI m v m.length) = true
  rotate_left
  · have j1' : idB (prodI m v m.length) = false := by simpa using j1
    rw [j1', Bool.false_and] at hinv
    simp (disch := first | omega | (simp <;> omega) | fail) [j1']
    refine cd hinv ?_ (by simp [snaps, mat])
    simp (disch := first | omega | (simp <;> omega) | fail) []
  rw [j1, Bool.true_and] at hinv
  simp (disch := first | omega | (simp <;> omega) | fail) [j1]
  refine cd i2 ?_ (by simp [snaps, mat])
  simp (disch := first | omega | (simp <;> omega) | fail) []
  refine cd hinv ?_ (by simp [snaps, mat])
  simp (disch := first | omega | (simp <;> omega) | fail) []
end Go.Vm
