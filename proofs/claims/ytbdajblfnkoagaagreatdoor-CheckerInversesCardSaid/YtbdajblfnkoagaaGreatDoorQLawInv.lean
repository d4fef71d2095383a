/- CheckerInverses: the law, once known() is true. -/
import Derived.Test.YtbdajblfnkoagaaGreatDoorQRefProd
import Derived.Test.YtbdajblfnkoagaaGreatDoorQT
set_option linter.unusedVariables false
set_option linter.unusedSimpArgs false
namespace Go.Vm
open Go Go.Am Go.Big
def allFrom (f : Nat → Bool) : Nat → Nat → Bool
  | 0, _ => true
  | n + 1, i => f i && allFrom f n (i + 1)
theorem allFrom_iff {f : Nat → Bool} : ∀ (n s : Nat), allFrom f n s = true ↔ ∀ i, s ≤ i → i < s + n → f i = true
  | 0, s => by simp [allFrom]; intro i h1 h2; omega
  | n + 1, s => by
    simp only [allFrom, Bool.and_eq_true, allFrom_iff n (s + 1)]
    constructor
    · rintro ⟨h1, h2⟩ i h3 h4
      by_cases h : i = s
      · subst h; exact h1
      · exact h2 i (by omega) (by omega)
    · intro h
      exact ⟨h s (by omega) (by omega), fun i h1 h2 => h i (by omega) (by omega)⟩
def kron (i k : Nat) : Int := if i = k then 1 else 0
def idB (zs : List (List Int)) : Bool := allFrom (fun i => allFrom (fun k => decide (nth 0 (nth [] zs i) k = kron i k)) (nth [] zs i).length 0) zs.length 0
theorem id_l1 {x : List Int} {i : Nat} (hx : x.length < 1000000) (k : KL) (h h0 : Hp) (hh : h0.length = h.length) : ∀ (n c : Nat), c + n = x.length → (allFrom (fun k => decide (nth 0 x k = kron i k)) n c = true → k (.exit 2) [] h) → (allFrom (fun k => decide (nth 0 x k = kron i k)) n c = false → k .ret [B false] h) →
    lp (schismalaw55_identity_l1 (CX Y) (I i) (.d (row x)) (I x.length)) [] h0 [I c] h k
  | 0, c, hc, h1, h2 => by
    refine lp_in ?_
    simp (disch := first | omega | (simp <;> omega) | fail) [schismalaw55_identity_l1]
    exact h1 rfl
  | n + 1, c, hc, h1, h2 => by
    have ih := id_l1 (i := i) hx k h h0 hh n (c + 1) (by omega)
    have eI : ixV h 1 (.d (row x)) (.d (.int .i64 (c : Int))) = some (.dptr (x.map di) c) := ix_lst di _ h rfl (by omega)
    have eL := ld_row x h (j := c) (by omega)
    simp only [allFrom] at h1 h2
    obtain ⟨e, he⟩ : ∃ e, nth 0 x c = e := ⟨_, rfl⟩
    rw [he] at eL h1 h2
    refine lp_in ?_
    by_cases hic : i = c
    · subst hic
      have hk : kron i i = 1 := by simp [kron]
      rw [hk] at h1 h2
      by_cases g : e = 1
      · subst g
        simp only [decide_true, Bool.true_and] at h1 h2
        have := ih h1 h2
        simp (disch := first | omega | (simp <;> omega) | fail) [schismalaw55_identity_l1, eI, eL, hh]
        simpa using this
      · rw [show decide (e = 1) = false by simpa using g] at h2
        simp (disch := first | omega | (simp <;> omega) | fail) [schismalaw55_identity_l1, eI, eL, g]
        simpa using h2
    · have hk : kron i c = 0 := by simp [kron, hic]
      rw [hk] at h1 h2
      by_cases g : e = 0
      · subst g
        simp only [decide_true, Bool.true_and] at h1 h2
        have := ih h1 h2
        simp (disch := first | omega | (simp <;> omega) | fail) [schismalaw55_identity_l1, eI, eL, hic, hh]
        simpa using this
      · rw [show decide (e = 0) = false by simpa using g] at h2
        simp (disch := first | omega | (simp <;> omega) | fail) [schismalaw55_identity_l1, eI, eL, hic, g]
        simpa using h2
theorem id_l0 {zs : List (List Int)} (hN : zs.length < 1000000) (hl : ∀ r ∈ zs, r.length < 1000000) (k : KL) (h h0 : Hp) (hh : h0.length = h.length) : ∀ (n i : Nat), i + n = zs.length → (allFrom (fun i => allFrom (fun k => decide (nth 0 (nth [] zs i) k = kron i k)) (nth [] zs i).length 0) n i = true → k (.exit 0) [] h) → (allFrom (fun i => allFrom (fun k => decide (nth 0 (nth [] zs i) k = kron i k)) (nth [] zs i).length 0) n i = false → k .ret [B false] h) →
    lp (schismalaw55_identity_l0 (CX Y) (mat zs) (I zs.length)) [] h0 [I i] h k
  | 0, i, hi, h1, h2 => by
    refine lp_in ?_
    simp (disch := first | omega | (simp <;> omega) | fail) [schismalaw55_identity_l0]
    exact h1 rfl
  | n + 1, i, hi, h1, h2 => by
    have ih := id_l0 hN hl k h h0 hh n (i + 1) (by omega)
    have hil : i < zs.length := by omega
    have eI : ixV h 1 (mat zs) (.d (.int .i64 (i : Int))) = some (.dptr (zs.map row) i) := ix_lst row _ h rfl hil
    have eL := ld_mrow zs h (j := i) hil
    simp only [allFrom] at h1 h2
    have hxl := hl (nth [] zs i) (nth_mem hil)
    obtain ⟨x, hx⟩ : ∃ x, nth [] zs i = x := ⟨_, rfl⟩
    rw [hx] at eL h1 h2 hxl
    refine lp_in ?_
    simp (disch := first | omega | (simp <;> omega) | fail) [schismalaw55_identity_l0, eI, eL]
    refine lo (id_l1 (x := x) (i := i) (by omega) _ _ _ rfl x.length 0 (by omega) (fun g => ?_) (fun g => ?_))
    · rw [g] at h1 h2
      simp only [Bool.true_and] at h1 h2
      have := ih h1 h2
      simp (disch := first | omega | (simp <;> omega) | fail) [hh]
      simpa using this
    · rw [g] at h2
      simp (disch := first | omega | (simp <;> omega) | fail) []
      simpa using h2
theorem rowFrom_nth (r : List Int) (b : List (List Int)) : ∀ (n c k : Nat), k < n → nth 0 (rowFrom r b n c) k = dotI r (colI (c + k) b)
  | 0, c, k, h => by omega
  | n + 1, c, 0, h => rfl
  | n + 1, c, k + 1, h => by
    have := rowFrom_nth r b n (c + 1) k (by omega)
    rw [show c + (k + 1) = c + 1 + k by omega, ← this]
    rfl
theorem idB_ok {zs : List (List Int)} (h : idB zs = true) : zs.all okRow = true := by
  unfold idB at h
  rw [allFrom_iff] at h
  simp only [okRow, List.all_eq_true]
  intro r hr e he
  obtain ⟨i, hi, rfl⟩ := List.getElem_of_mem hr
  obtain ⟨k, hk, rfl⟩ := List.getElem_of_mem he
  have h1 := h i (by omega) (by omega)
  rw [allFrom_iff] at h1
  have e1 : nth [] zs i = zs[i] := nth_eq _ _ _ hi
  have h2 := h1 k (by omega) (by rw [e1]; omega)
  rw [e1, nth_eq _ _ _ hk] at h2
  simp only [decide_eq_true_eq] at h2
  rw [h2]
  unfold kron
  split <;> decide
theorem prodI_bound {a b : List (List Int)} {n : Nat} (ha : ∀ r ∈ a, okRow r = true ∧ r.length ≤ 12) (hb : ∀ r ∈ b, okRow r = true ∧ n ≤ r.length) : ∀ r ∈ prodI a b n, ∀ z ∈ r, z.natAbs < 10 ^ 63 := by
  intro r hr z hz
  simp only [prodI, List.mem_map] at hr
  obtain ⟨x, hx, rfl⟩ := hr
  obtain ⟨k, hk, rfl⟩ := List.getElem_of_mem hz
  have hxa := ha x hx
  have hkl : k < n := by rw [rowFrom_len] at hk; exact hk
  have e := rowFrom_nth x b n 0 k hkl
  rw [nth_eq _ _ _ hk] at e
  have hcol : okRow (colI (0 + k) b) = true := by
    simp only [okRow, List.all_eq_true, colI, List.mem_map]
    rintro _ ⟨q, hq, rfl⟩
    have h1 := hb q hq
    have h2 := h1.1
    simp only [okRow, List.all_eq_true] at h2
    exact h2 _ (nth_mem (by omega))
  have := dotI_le x (colI (0 + k) b) (by omega) hxa.1 hcol
  rw [e]
  exact big63 (M := 12) (by omega) (by omega)
theorem identity_ok {a b : List (List Int)} {n : Nat} (hn : n ≤ 12) (hal : a.length = n) (hbl : b.length = n) (ha : ∀ r ∈ a, okRow r = true ∧ r.length = n) (hb : ∀ r ∈ b, okRow r = true ∧ r.length = n) : CP Y F.schismalaw55_identity [mat a, mat b] (B (idB (prodI a b n))) := by
  refine schismalaw55_identity_i ?_
  have h64 : ∀ m : List (List Int), (∀ r ∈ m, okRow r = true ∧ r.length = n) → ∀ r ∈ m, ∀ z ∈ r, -9223372036854775808 < z ∧ z < 9223372036854775808 := fun m hm r hr z hz => by
    have := (hm r hr).1
    simp only [okRow, List.all_eq_true] at this
    have := okEnt_iff.1 (this z hz)
    omega
  have ta := toM_ok (m := a) (by omega) (fun r hr => by have := (ha r hr).2; omega) (h64 a ha)
  have tb := toM_ok (m := b) (by omega) (fun r hr => by have := (hb r hr).2; omega) (h64 b hb)
  have hp := product_okM (a := a) (b := b) (n := n) (by omega) (by omega) hn (fun r hr => ⟨(ha r hr).1, by have := (ha r hr).2; omega⟩) (fun r hr => ⟨(hb r hr).1, by have := (hb r hr).2; omega⟩)
  have hpl : (prodI a b n).length = n := by simp [prodI, hal]
  have hpr : ∀ r ∈ prodI a b n, r.length < 1000000 := fun r hr => by
    simp only [prodI, List.mem_map] at hr
    obtain ⟨x, hx, rfl⟩ := hr
    rw [rowFrom_len]; omega
  have hpb := prodI_bound (a := a) (b := b) (n := n) (fun r hr => ⟨(ha r hr).1, by have := (ha r hr).2; omega⟩) (fun r hr => ⟨(hb r hr).1, by have := (hb r hr).2; omega⟩)
  generalize prodI a b n = zs at *
  have hf := fromM_ok (zs := zs) (by omega) hpr hpb
  simp (disch := first | omega | (simp <;> omega) | fail) [schismalaw55_identity]
  refine cd ta ?_ (by simp [snaps, mat])
  simp (disch := first | omega | (simp <;> omega) | fail) []
  refine cd tb ?_ (by simp [snaps, mat])
  simp (disch := first | omega | (simp <;> omega) | fail) [hal]
  refine cd hp ?_
  simp (disch := first | omega | (simp <;> omega) | fail) []
  refine cd hf ?_
  by_cases g : zs.all okRow = true
  · simp (disch := first | omega | (simp <;> omega) | fail) [g]
    refine lo (id_l0 (by omega) hpr _ _ _ rfl zs.length 0 (by omega) (fun g => ?_) (fun g => ?_))
    · simp (disch := first | omega | (simp <;> omega) | fail) []
      exact out_b g.symm
    · simp (disch := first | omega | (simp <;> omega) | fail) []
      exact out_b g.symm
  · have hz : idB zs = false := by
      cases h : idB zs with
      | false => rfl
      | true => exact absurd (idB_ok h) g
    have g' : zs.all okRow = false := by simpa using g
    have hl0 : lenV (.d (.sl 0 [])) = some (I 0) := rfl
    rw [hz]
    simp (disch := first | omega | (simp <;> omega) | fail) [g', hl0]
    refine lo (lp_in ?_)
    simp (disch := first | omega | (simp <;> omega) | fail) [schismalaw55_identity_l0]
end Go.Vm
