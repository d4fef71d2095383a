/- Inverse of the checker. -/
import Derived.Test.YtbdajblfnkoagaaGreatDoorQCkTemp
import Derived.Test.YtbdajblfnkoagaaGreatDoorQLawInv
set_option linter.unusedVariables false
set_option linter.unusedSimpArgs false
namespace Go.Vm
open Go Go.Am Go.Big
def sqB (n : Nat) (x : List (List Int)) : Bool := okMat x && decide (x.length = n) && (decide (n = 0) || decide ((x.headD []).length = n))
theorem sqB_rows {n : Nat} {x : List (List Int)} (h : sqB n x = true) : (∀ r ∈ x, okRow r = true ∧ r.length = n) ∧ x.length = n ∧ n ≤ 12 := by
  simp only [sqB, Bool.and_eq_true, Bool.or_eq_true, decide_eq_true_eq] at h
  obtain ⟨⟨h1, h2⟩, h3⟩ := h
  have h12 : x.length ≤ 12 := by simp only [okMat, Bool.and_eq_true, decide_eq_true_eq] at h1; exact h1.1
  refine ⟨fun r hr => ?_, h2, by omega⟩
  have := okMat_row h1 r hr
  rcases h3 with h | h
  · have hx : x = [] := List.eq_nil_of_length_eq_zero (by omega)
    rw [hx] at hr; cases hr
  · exact ⟨this.2.2, by omega⟩
theorem inv_l0 {n : Nat} {l : List (List (List Int))} (hn : n < 1000000) (hl : ∀ m ∈ l, m.length < 1000000 ∧ ∀ r ∈ m, r.length < 1000000) (hN : l.length < 1000000) (k : KL) (h h0 : Hp) (hh : h0.length = h.length) : ∀ (q a : List (List (List Int))), a ++ q = l → (q.all (sqB n) = true → k (.exit 0) [] h) → (q.all (sqB n) = false → k .ret [B false] h) →
    lp (checker_Inverse_l0 (CX Y) (I n) (lst matD l) (I l.length)) [] h0 [I a.length] h k
  | [] => by
    intro a ha h1 h2
    simp at ha
    subst ha
    refine lp_in ?_
    simp (disch := first | omega | (simp <;> omega) | fail) [checker_Inverse_l0]
    exact h1 rfl
  | m :: q => by
    intro a ha h1 h2
    have hal : a.length < l.length := by subst ha; simp
    have hm : nth [] l a.length = m := by subst ha; simp
    have hml := hl m (by subst ha; simp)
    have eI : ixV h 1 (lst matD l) (.d (.int .i64 (a.length : Int))) = some (.dptr (l.map matD) a.length) := ix_lst matD _ h rfl hal
    have eL : ld1 h (.dptr (l.map matD) a.length) = some (mat m) := by
      have := ld_nth matD [] l h hal
      rw [hm] at this
      exact this
    have ih := inv_l0 hn hl hN k h h0 hh q (a ++ [m]) (by simpa using ha)
    have hmat := matrix_ok m (by omega) (fun r hr => by have := hml.2 r hr; omega)
    simp only [List.all_cons] at h1 h2
    refine lp_in ?_
    simp (disch := first | omega | (simp <;> omega) | fail) [checker_Inverse_l0, eI, eL]
    refine cd hmat ?_ (by simp [snaps, mat])
    by_cases g1 : okMat m = true
    rotate_left
    · have : sqB n m = false := by simp [sqB, g1]
      rw [this] at h2
      simp (disch := first | omega | (simp <;> omega) | fail) [g1]
      simpa using h2
    by_cases g2 : m.length = n
    rotate_left
    · have : sqB n m = false := by simp [sqB, g2]
      rw [this] at h2
      simp (disch := first | omega | (simp <;> omega) | fail) [g1, g2]
      simpa using h2
    have g2' : ((m.length : Int) = (n : Int)) = True := eq_true (by omega)
    by_cases g0 : n = 0
    · have : sqB n m = true := by simp only [sqB, g1, g2, g0]; simp
      rw [this] at h1 h2
      simp only [Bool.true_and] at h1 h2
      have := ih h1 h2
      have g0' : ¬ (0 : Int) < (n : Int) := by omega
      simp (disch := first | omega | (simp <;> omega) | fail) [g1, g2', g0', hh]
      simpa using this
    · have g0' : (0 : Int) < (n : Int) := by omega
      by_cases g3 : (m.headD []).length = n
      · have : sqB n m = true := by simp only [sqB, g1, g2, g3]; simp
        rw [this] at h1 h2
        simp only [Bool.true_and] at h1 h2
        have := ih h1 h2
        have g3' : (((nth [] m 0).length : Int) = (n : Int)) = True := eq_true (by rw [nth_zero]; omega)
        simp (disch := first | omega | (simp <;> omega) | fail) [g1, g2', g0', g3', hh]
        simpa using this
      · have : sqB n m = false := by
          have e1 : decide (n = 0) = false := by simpa using g0
          have e2 : decide ((m.headD []).length = n) = false := by simpa using g3
          simp only [sqB, g1, e1, e2, Bool.or_self, Bool.and_false]
        rw [this] at h2
        have g3' : ¬ ((nth [] m 0).length : Int) = (n : Int) := by rw [nth_zero]; omega
        simp (disch := first | omega | (simp <;> omega) | fail) [g1, g2', g0', g3']
        simpa using h2
def okIK (m v : List (List Int)) (i k : Nat) : Bool := decide (dotI (nth [] m i) (colI k v) = kron i k) && decide (dotI (nth [] v i) (colI k m) = kron i k)
theorem col_row {m : List (List Int)} {n k : Nat} (hm : ∀ r ∈ m, okRow r = true ∧ r.length = n) (hk : k < n) : okRow (colI k m) = true := by
  simp only [okRow, List.all_eq_true, colI, List.mem_map]
  rintro _ ⟨q, hq, rfl⟩
  have h1 := hm q hq
  have h2 := h1.1
  simp only [okRow, List.all_eq_true] at h2
  exact h2 _ (nth_mem (by omega))
theorem inv_l2 {m v : List (List Int)} {n i : Nat} (hm : ∀ r ∈ m, okRow r = true ∧ r.length = n) (hml : m.length = n) (hv : ∀ r ∈ v, okRow r = true ∧ r.length = n) (hvl : v.length = n) (hn : n ≤ 12) (hi : i < n) (K : KL) :
    ∀ (r c : Nat), c + r = n → (allFrom (okIK m v i) r c = true → K (.exit 4) [] [(0, .none)]) → (allFrom (okIK m v i) r c = false → ∀ h, K .ret [B false] h) →
    lp (checker_Inverse_l2 (CX Y) (mat m) (mat v) (I i) (I n)) [0] [(0, .none)] [I c] [(0, .none)] K
  | 0, c, hc, h1, h2 => by
    refine lp_in ?_
    simp (disch := first | omega | (simp <;> omega) | fail) [checker_Inverse_l2]
    exact h1 rfl
  | r + 1, c, hc, h1, h2 => by
    have hcn : c < n := by omega
    have ih := inv_l2 hm hml hv hvl hn hi K r (c + 1) (by omega)
    have hmi := hm (nth [] m i) (nth_mem (by omega))
    have hvi := hv (nth [] v i) (nth_mem (by omega))
    have hcv := col_row hv hcn
    have hcm := col_row hm hcn
    have hclv : (colI c v).length = n := by simp [colI, hvl]
    have hclm : (colI c m).length = n := by simp [colI, hml]
    have c1 := column_ok (c := c) (m := v) (by omega) (fun r hr => by have := (hv r hr).2; omega)
    have c2 := column_ok (c := c) (m := m) (by omega) (fun r hr => by have := (hm r hr).2; omega)
    have d1 := dot_ok (a := nth [] m i) (b := colI c v) (by omega) (by omega) hmi.1 hcv
    have d2 := dot_ok (a := nth [] v i) (b := colI c m) (by omega) (by omega) hvi.1 hcm
    have l1 := dotI_le (nth [] m i) (colI c v) (by omega) hmi.1 hcv
    have l2 := dotI_le (nth [] v i) (colI c m) (by omega) hvi.1 hcm
    have eIm : ∀ h : Hp, ixV h 1 (mat m) (.d (.int .i64 (i : Int))) = some (.dptr (m.map row) i) := fun h => ix_lst row _ h rfl (by omega)
    have eIv : ∀ h : Hp, ixV h 1 (mat v) (.d (.int .i64 (i : Int))) = some (.dptr (v.map row) i) := fun h => ix_lst row _ h rfl (by omega)
    have eLm : ∀ h : Hp, ld1 h (.dptr (m.map row) i) = some (.d (row (nth [] m i))) := fun h => ld_mrow m h (by omega)
    have eLv : ∀ h : Hp, ld1 h (.dptr (v.map row) i) = some (.d (row (nth [] v i))) := fun h => ld_mrow v h (by omega)
    simp only [allFrom, okIK] at h1 h2
    have hkr : kron i c = if i = c then 1 else 0 := rfl
    generalize nth [] m i = x at *
    generalize nth [] v i = y at *
    generalize colI c v = cv at *
    generalize colI c m = cm at *
    generalize dotI x cv = s at *
    generalize dotI y cm = t at *
    obtain ⟨w, hw⟩ : ∃ w, kron i c = w := ⟨_, rfl⟩
    have hw01 : w = 0 ∨ w = 1 := by rw [← hw, hkr]; split; exact .inr rfl; exact .inl rfl
    rw [hw] at h1 h2
    have q1 := equal_ok (a := s) (b := w) (fits_small (by omega) (by omega)) (fits_small (by omega) (by omega))
    have q2 := equal_ok (a := t) (b := w) (fits_small (by omega) (by omega)) (fits_small (by omega) (by omega))
    have tail : (
        bnd (ixV [(1, .vars (intL w))] 1 (mat m) (I i)) fun v8 =>
        bnd (ld1 [(1, .vars (intL w))] v8) fun v9 =>
        cal (CX Y).p [(1, .vars (intL w))] (.fn F.checker_column [] []) [mat v, I c] fun v10 h =>
        cal (CX Y).p h (.fn F.checker_dot [] []) [v9, v10] fun v11 h =>
        bnd (ldA h 2 (.ptr 0 1 0 2)) fun v12 =>
        cal (CX Y).p h (.fn F.checker_integer_equal [] []) [v11, v12] fun v13 h =>
        bnd (unV .not v13) fun v14 =>
        gd v14 false h (fun q => q (mat v) h) fun v15 h =>
        gd v14 false h (fun q => q (I i) h) fun v16 h =>
        gd v14 false h (fun q => bnd (ixV h 1 v15 v16) fun v => q v h) fun v17 h =>
        gd v14 false h (fun q => bnd (ld1 h v17) fun v => q v h) fun v18 h =>
        gd v14 false h (fun q => q (mat m) h) fun v19 h =>
        gd v14 false h (fun q => q (I c) h) fun v20 h =>
        gd v14 false h (fun q => cal (CX Y).p h (.fn F.checker_column [] []) [v19, v20] q) fun v21 h =>
        gd v14 false h (fun q => cal (CX Y).p h (.fn F.checker_dot [] []) [v18, v21] q) fun v22 h =>
        gd v14 false h (fun q => bnd (ldA h 2 (.ptr 0 1 0 2)) fun v => q v h) fun v23 h =>
        gd v14 false h (fun q => cal (CX Y).p h (.fn F.checker_integer_equal [] []) [v22, v23] q) fun v24 h =>
        gd v14 false h (fun q => bnd (unV .not v24) fun v => q v h) fun v25 h =>
        bnd (pickV v14 (.d (.bool true)) v25) fun v26 =>
        cnd v26 (
          lpK [0] [(0, .none)] (fun l h => lp (checker_Inverse_l2 (CX Y) (mat m) (mat v) (I i) (I n)) [0] [(0, .none)] l h K) K .ret [(.d (.bool false))] h) (
          bnd (biI .add (I c) (.d (.int .i64 1))) fun v27 =>
          lpK [0] [(0, .none)] (fun l h => lp (checker_Inverse_l2 (CX Y) (mat m) (mat v) (I i) (I n)) [0] [(0, .none)] l h K) K .normal [v27] h)) := by
      simp (disch := first | omega | (simp <;> omega) | fail) [eIm, eLm, intL]
      refine cd c1 ?_ (by simp [snaps, mat])
      simp (disch := first | omega | (simp <;> omega) | fail) []
      refine cd (args := [lst di x, lst di cv]) d1 ?_
      simp (disch := first | omega | (simp <;> omega) | fail) []
      refine cd (args := [intV s, intV w]) q1 ?_
      by_cases g1 : s = w
      rotate_left
      · rw [show decide (s = w) = false by simpa using g1] at h2
        simp (disch := first | omega | (simp <;> omega) | fail) [g1]
        exact h2 rfl _
      rw [show decide (s = w) = true by simpa using g1, Bool.true_and] at h1 h2
      have g1' := eq_true g1
      simp (disch := first | omega | (simp <;> omega) | fail) [g1', eIv, eLv]
      refine cd c2 ?_ (by simp [snaps, mat])
      simp (disch := first | omega | (simp <;> omega) | fail) []
      refine cd (args := [lst di y, lst di cm]) d2 ?_
      simp (disch := first | omega | (simp <;> omega) | fail) []
      refine cd (args := [intV t, intV w]) q2 ?_
      by_cases g2 : t = w
      rotate_left
      · rw [show decide (t = w) = false by simpa using g2] at h2
        simp (disch := first | omega | (simp <;> omega) | fail) [g2]
        exact h2 rfl _
      rw [show decide (t = w) = true by simpa using g2, Bool.true_and] at h1 h2
      have g2' := eq_true g2
      have := ih h1 h2
      simp (disch := first | omega | (simp <;> omega) | fail) [g2', clean, offSs, offS_int, offH_cons, offH, notIn_nil, notIn_cons, beq_lit, reset_cons, reset_end]
      simpa using this
    refine lp_in ?_
    simp (disch := first | omega | (simp <;> omega) | fail) [checker_Inverse_l2]
    refine cd (number_ok (n := 0) (by omega)) ?_
    by_cases hic : i = c
    · have hw1 : w = 1 := by rw [← hw, hkr, if_pos hic]
      subst hw1
      have hic' : ((i : Int) = (c : Int)) = True := eq_true (by omega)
      simp (disch := first | omega | (simp <;> omega) | fail) [intV, intL, hic']
      refine jo_in ?_
      simp (disch := first | omega | (simp <;> omega) | fail) [hic']
      refine cd (number_ok (n := 1) (by omega)) ?_
      simp (disch := first | omega | (simp <;> omega) | fail) [intV, intL]
      simp (disch := first | omega | (simp <;> omega) | fail) [intL] at tail
      exact tail
    · have hw0 : w = 0 := by rw [← hw, hkr, if_neg hic]
      subst hw0
      simp (disch := first | omega | (simp <;> omega) | fail) [intV, intL, hic]
      refine jo_in ?_
      simp (disch := first | omega | (simp <;> omega) | fail) [hic]
      simp (disch := first | omega | (simp <;> omega) | fail) [intL] at tail
      exact tail
theorem inv_l1 {m v : List (List Int)} {n : Nat} (hm : ∀ r ∈ m, okRow r = true ∧ r.length = n) (hml : m.length = n) (hv : ∀ r ∈ v, okRow r = true ∧ r.length = n) (hvl : v.length = n) (hn : n ≤ 12) (K : KL) :
    ∀ (r i : Nat), i + r = n → (allFrom (fun i => allFrom (okIK m v i) n 0) r i = true → K (.exit 2) [] [(0, .none)]) → (allFrom (fun i => allFrom (okIK m v i) n 0) r i = false → ∀ h, K .ret [B false] h) →
    lp (checker_Inverse_l1 (CX Y) (mat m) (mat v) (I n) (I n)) [0] [(0, .none)] [I i] [(0, .none)] K
  | 0, i, hi, h1, h2 => by
    refine lp_in ?_
    simp (disch := first | omega | (simp <;> omega) | fail) [checker_Inverse_l1]
    exact h1 rfl
  | r + 1, i, hi, h1, h2 => by
    have ih := inv_l1 hm hml hv hvl hn K r (i + 1) (by omega)
    simp only [allFrom] at h1 h2
    refine lp_in ?_
    simp (disch := first | omega | (simp <;> omega) | fail) [checker_Inverse_l1]
    refine lo (inv_l2 hm hml hv hvl hn (i := i) (by omega) _ n 0 (by omega) (fun g => ?_) (fun g h => ?_))
    · rw [g] at h1 h2
      simp only [Bool.true_and] at h1 h2
      have := ih h1 h2
      simp (disch := first | omega | (simp <;> omega) | fail) [clean, offSs, offS_int, offH_cons, offH, notIn_nil, notIn_cons, beq_lit, reset_cons, reset_end]
      simpa using this
    · rw [g] at h2
      simp (disch := first | omega | (simp <;> omega) | fail) []
      exact h2 rfl h
def invB (m v : List (List Int)) : Bool := sqB m.length m && sqB m.length v && allFrom (fun i => allFrom (okIK m v i) m.length 0) m.length 0
theorem inverse_ok {m v : List (List Int)} (hm : m.length < 1000000 ∧ ∀ r ∈ m, r.length < 1000000) (hv : v.length < 1000000 ∧ ∀ r ∈ v, r.length < 1000000) : CP Y F.checker_Inverse [mat m, mat v] (B (invB m v)) := by
  refine checker_Inverse_i ?_
  have hli : ∀ H : Hp, lisR 2 [D.pl (Value.slice none 0 0)] [(0, mat m), (1, mat v)] H = some ([matD m, matD v], H) := fun H => by
    have e1 : mat m = .d (matD m) := rfl
    have e2 : mat v = .d (matD v) := rfl
    rw [e1, e2]
    simp [lisR, repl, toDs, toD]
  have hl2 : V.d (.sl 2 [matD m, matD v]) = lst matD [m, v] := rfl
  simp (disch := first | omega | (simp <;> omega) | fail) [checker_Inverse, hli]
  rw [hl2]
  simp (disch := first | omega | (simp <;> omega) | fail) []
  refine lo (inv_l0 (n := m.length) (by omega) (l := [m, v]) (by simp; exact ⟨hm, hv⟩) (by simp) _ _ _ rfl [m, v] [] rfl (fun g => ?_) (fun g => ?_))
  · simp only [List.all_cons, List.all_nil, Bool.and_true, Bool.and_eq_true] at g
    obtain ⟨f1, f2⟩ := g
    obtain ⟨r1, r2, r3⟩ := sqB_rows f1
    obtain ⟨s1, s2, _⟩ := sqB_rows f2
    simp (disch := first | omega | (simp <;> omega) | fail) []
    refine lo (inv_l1 r1 rfl s1 s2 r3 _ m.length 0 (by omega) (fun g => ?_) (fun g h => ?_))
    · simp (disch := first | omega | (simp <;> omega) | fail) []
      exact out_b (by simp only [invB, f1, f2, g]; rfl)
    · simp (disch := first | omega | (simp <;> omega) | fail) []
      exact out_b (by simp only [invB, f1, f2, g]; rfl)
  · simp (disch := first | omega | (simp <;> omega) | fail) []
    refine out_b ?_
    have e : (sqB m.length m && sqB m.length v) = false := by simpa [Bool.and_eq_false_iff] using g
    simp only [invB, e]; rfl
end Go.Vm
