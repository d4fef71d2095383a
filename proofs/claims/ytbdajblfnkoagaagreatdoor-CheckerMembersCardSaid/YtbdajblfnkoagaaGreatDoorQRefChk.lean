/- ref07: Check, first, IsForm: what they find. -/
import Derived.Test.YtbdajblfnkoagaaGreatDoorQCkForm
import Derived.Test.YtbdajblfnkoagaaGreatDoorQT
set_option linter.unusedVariables false
set_option linter.unusedSimpArgs false
namespace Go.Vm
open Go Go.Am Go.Big
def chkGo (hd : Nat) : List (List Int) → Int
  | [] => 0
  | r :: q => if 12 < r.length then 4 else if r.length ≠ hd then 5 else if okRow r = true then chkGo hd q else 4
def chk7 (m : List (List Int)) : Int := if 12 < m.length then 4 else chkGo (m.headD []).length m
theorem chkGo_zero (hd : Nat) : ∀ m : List (List Int), chkGo hd m = 0 ↔ ∀ r ∈ m, r.length = hd ∧ r.length ≤ 12 ∧ okRow r = true
  | [] => by simp [chkGo]
  | r :: m => by
    simp only [chkGo, List.forall_mem_cons]
    have ih := chkGo_zero hd m
    split
    · constructor
      · intro h; cases h
      · rintro ⟨⟨_, h, _⟩, _⟩; omega
    · split
      · constructor
        · intro h; cases h
        · rintro ⟨⟨h, _⟩, _⟩; contradiction
      · split
        · rename_i h1 h2 h3
          rw [ih]
          constructor
          · intro h; exact ⟨⟨by omega, by omega, h3⟩, h⟩
          · rintro ⟨_, h⟩; exact h
        · rename_i h1 h2 h3
          constructor
          · intro h; cases h
          · rintro ⟨⟨_, _, h⟩, _⟩; contradiction
theorem chk7_zero (m : List (List Int)) : chk7 m = 0 ↔ okMat m = true := by
  unfold chk7
  have := chkGo_zero (m.headD []).length m
  by_cases h : 12 < m.length
  · simp [h, okMat]; intro; omega
  · rw [if_neg h, this]
    simp only [okMat, Bool.and_eq_true, List.all_eq_true, decide_eq_true_eq]
    constructor
    · intro g; exact ⟨by omega, fun r hr => ⟨⟨(g r hr).1, (g r hr).2.1⟩, (g r hr).2.2⟩⟩
    · rintro ⟨_, g⟩ r hr; exact ⟨(g r hr).1.1, (g r hr).1.2, (g r hr).2⟩
theorem chk_in {m : List (List Int)} {p : Nat} (hp : p < m.length) {r : List Int} (hr : nth [] m p = r) (hm : r.length ≤ 12) (k : KL) : ∀ (q a : List Int), a ++ q = r →
    (okRow q = true → k (.exit 2) [] []) → (okRow q = false → k .ret [I 4] []) →
    lp (schismaref07_Check_l1 (CX Y) (mat m) (I p)) [] [] [I a.length] [] k
  | [] => by
    intro a ha h0 h1
    subst ha
    refine lp_in ?_
    simp at hr
    simp (disch := first | omega | (simp <;> omega) | fail) [schismaref07_Check_l1, hr]
    exact h0 rfl
  | x :: q => by
    intro a ha h0 h1
    subst ha
    simp at hm
    refine lp_in ?_
    simp (disch := first | omega | (simp <;> omega) | fail) [schismaref07_Check_l1, hr]
    refine br_in (fun h => ?_) (fun h => ?_) <;> try simp (disch := first | omega | (simp <;> omega) | fail) [h, hr]
    rotate_left
    · exact h1 (by simp [okRow, okEnt]; omega)
    · refine br_in (fun h2 => ?_) (fun h2 => ?_) <;> try simp (disch := first | omega | (simp <;> omega) | fail) [h2]
      · exact h1 (by simp [okRow, okEnt]; omega)
      · have := chk_in hp hr (by simp; omega) k q (a ++ [x]) (by simp) (fun g => h0 ?_) (fun g => h1 ?_)
        · simpa using this
        · simp [okRow, okEnt] at g ⊢; exact ⟨⟨by omega, by omega⟩, g⟩
        · simp only [okRow, List.all_cons, Bool.and_eq_false_iff] at g ⊢; exact .inr g
theorem chk_loop (k : KL) (hd : Nat) : ∀ (q a : List (List Int)), (a ++ q).length ≤ 12 → ((a ++ q).headD []).length = hd → (∀ r ∈ a ++ q, r.length < 1000000000000) →
    (chkGo hd q = 0 → k (.exit 0) [] []) → (chkGo hd q ≠ 0 → k .ret [I (chkGo hd q)] []) →
    lp (schismaref07_Check_l0 (CX Y) (mat (a ++ q))) [] [] [I a.length] [] k
  | [] => by
    intro a hN hh hl h0 h1
    refine lp_in ?_
    simp (disch := first | omega | (simp <;> omega) | fail) [schismaref07_Check_l0]
    exact h0 rfl
  | r :: q => by
    intro a hN hh hl h0 h1
    simp at hN
    have hr := hl r (by simp)
    have hz : (nth [] (a ++ r :: q) 0).length = hd := by rw [nth_zero]; exact hh
    have hld : ∀ h : Hp, ld1 h (.dptr (a.map row ++ row r :: q.map row) 0) = some (.d (row (nth [] (a ++ r :: q) 0))) := fun h => by
      have := ld_mrow (a ++ r :: q) h (j := 0) (by simp; omega)
      simpa using this
    refine lp_in ?_
    simp only [chkGo] at h0 h1
    simp (disch := first | omega | (simp <;> omega) | fail) [schismaref07_Check_l0, hz, hld]
    refine br_in (fun h => ?_) (fun h => ?_) <;> try simp (disch := first | omega | (simp <;> omega) | fail) [h, hz, hld]
    · rw [if_pos (by omega)] at h1
      exact h1 (by omega)
    · rw [if_neg (by omega)] at h0 h1
      refine br_in (fun h2 => ?_) (fun h2 => ?_) <;> try simp (disch := first | omega | (simp <;> omega) | fail) [h2]
      · rw [if_pos (by omega)] at h1
        exact h1 (by omega)
      · rw [if_neg (by omega)] at h0 h1
        refine lo (chk_in (m := a ++ r :: q) (p := a.length) (by simp) (r := r) (by simp) (by omega) _ r [] rfl (fun g => ?_) (fun g => ?_))
        · rw [if_pos g] at h0 h1
          have := chk_loop k hd q (a ++ [r]) (by simp; omega) (by simpa using hh) (by simpa using hl) h0 h1
          simp (disch := first | omega | (simp <;> omega) | fail) []
          simpa using this
        · rw [if_neg (by simp [g])] at h1
          simp (disch := first | omega | (simp <;> omega) | fail) []
          exact h1 (by omega)
theorem chk7_ok {m : List (List Int)} (hN : m.length < 1000000000000) (hl : ∀ r ∈ m, r.length < 1000000000000) : CP Y F.schismaref07_Check [mat m] (I (chk7 m)) := by
  refine schismaref07_Check_i ?_
  unfold chk7
  obtain ⟨hd, hhd⟩ : ∃ hd, (m.headD []).length = hd := ⟨_, rfl⟩
  rw [hhd]
  simp (disch := first | omega | (simp <;> omega) | fail) [schismaref07_Check]
  refine br_in (fun h => ?_) (fun h => ?_) <;> try simp (disch := first | omega | (simp <;> omega) | fail) [h]
  · rw [if_pos (by omega)]
    exact out_i rfl
  · rw [if_neg (by omega)]
    refine lo (chk_loop _ hd m [] (by simp; omega) hhd (by simpa using hl) (fun g => ?_) (fun g => ?_))
    · rw [g]
      simp (disch := first | omega | (simp <;> omega) | fail) []
    · simp (disch := first | omega | (simp <;> omega) | fail) []
theorem first_loop (k : KL) : ∀ (q a : List Int), (a ++ q).length < 1000000000000 → (idx (fun n => n != 0) q = -1 → k (.exit 0) [] []) → (∀ i : Nat, idx (fun n => n != 0) q = i → k .ret [I (a.length + i : Nat)] []) →
    lp (schismaref07_first_l0 (CX Y) (lst di (a ++ q))) [] [] [I a.length] [] k
  | [] => by
    intro a hN h0 h1
    refine lp_in ?_
    simp (disch := first | omega | (simp <;> omega) | fail) [schismaref07_first_l0]
    exact h0 rfl
  | x :: q => by
    intro a hN h0 h1
    simp at hN
    refine lp_in ?_
    simp (disch := first | omega | (simp <;> omega) | fail) [schismaref07_first_l0]
    refine br_in (fun h => ?_) (fun h => ?_) <;> try simp (disch := first | omega | (simp <;> omega) | fail) [h]
    · have hx : (x != 0) = true := by simpa using h
      have e : idx (fun n => n != 0) (x :: q) = (0 : Nat) := by simp [idx, List.findIdx?_cons, hx]
      simpa using h1 0 e
    · have hx : (x != 0) = false := by simpa using h
      have := first_loop k q (a ++ [x]) (by simp; omega) (fun e => h0 ?_) (fun i e => ?_)
      · simpa [Int.add_assoc] using this
      · simp only [idx, List.findIdx?_cons, hx, Bool.false_eq_true, if_false] at e ⊢
        cases hq : List.findIdx? (fun n => n != 0) q <;> simp [hq] at e ⊢
      · have := h1 (i + 1) ?_
        · simpa [Nat.add_assoc, Nat.add_comm 1 i] using this
        · simp only [idx, List.findIdx?_cons, hx, Bool.false_eq_true, if_false] at e ⊢
          cases hq : List.findIdx? (fun n => n != 0) q <;> simp [hq] at e ⊢
          try exact e
theorem first_ok {r : List Int} (hr : r.length < 1000000000000) : CP Y F.schismaref07_first [lst di r] (I (piv r)) := by
  refine schismaref07_first_i ?_
  unfold schismaref07_first piv
  refine first_loop _ r [] (by simpa using hr) (fun e => ?_) (fun i e => ?_)
  · simp (disch := first | omega | (simp <;> omega) | fail) []
    exact out_i e.symm
  · simp (disch := first | omega | (simp <;> omega) | fail) []
    exact out_i (by rw [e])
theorem piv_ne {r : List Int} {p : Nat} (h : piv r = p) : nth 0 r p ≠ 0 := by
  unfold piv idx at h
  cases hf : r.findIdx? (fun n => n != 0) with
  | none => rw [hf] at h; simp at h
  | some i =>
    rw [hf] at h
    simp only [Int.natCast_inj] at h
    subst h
    obtain ⟨hi, h1, _⟩ := List.findIdx?_eq_some_iff_getElem.1 hf
    rw [nth_eq 0 r i hi]
    simpa using h1
theorem isf_up {m : List (List Int)} {p : Nat} {i : Nat} (hi : i < m.length) {r : List Int} (hr : nth [] m i = r) (hp : p < r.length) (hN : m.length ≤ 1000) (k : KL) : ∀ (q a c : List (List Int)), m = a ++ q ++ c → (a ++ q).length = i → (∀ o ∈ q, p < o.length) →
    (upOk p r q = true → k (.exit 2) [] []) → (upOk p r q = false → k .ret [B false] []) →
    lp (schismaref07_IsForm_l1 (CX Y) (mat m) (I i) (I p)) [] [] [I a.length] [] k
  | [] => by
    intro a c hm hl hq h0 h1
    simp at hl
    refine lp_in ?_
    simp (disch := first | omega | (simp <;> omega) | fail) [schismaref07_IsForm_l1]
    exact h0 rfl
  | o :: q => by
    intro a c hm hl hq h0 h1
    simp at hq hl
    have ho : nth [] m a.length = o := by subst hm; simp [List.append_assoc]
    refine lp_in ?_
    simp (disch := first | omega | (simp <;> omega) | fail) [schismaref07_IsForm_l1, ho, hr]
    refine br_in (fun h => ?_) (fun h => ?_) <;> try simp (disch := first | omega | (simp <;> omega) | fail) [h, ho, hr]
    rotate_left
    · exact h1 (by simp only [upOk, List.all_cons, Bool.and_eq_false_iff]; left; simp; omega)
    · refine br_in (fun h2 => ?_) (fun h2 => ?_) <;> try simp (disch := first | omega | (simp <;> omega) | fail) [h2]
      · exact h1 (by simp only [upOk, List.all_cons, Bool.and_eq_false_iff]; left; simp; omega)
      · have := isf_up hi hr hp hN k q (a ++ [o]) c (by simp [hm]) (by simp; omega) hq.2 (fun g => h0 ?_) (fun g => h1 ?_)
        · simpa using this
        · simp [upOk] at g ⊢; exact ⟨⟨by omega, by omega⟩, g⟩
        · simp only [upOk, List.all_cons, Bool.and_eq_false_iff]; right; simpa [upOk] using g
theorem isf_loop (k : KL) : ∀ (q a : List (List Int)) (before : Int), -1 ≤ before → (a ++ q).length ≤ 1000 → (∀ r ∈ a ++ q, ∀ s ∈ a ++ q, r.length = s.length) → (∀ r ∈ q, r.length < 1000) →
    (formGo before a q = true → k (.exit 0) [] []) → (formGo before a q = false → k .ret [B false] []) →
    lp (schismaref07_IsForm_l0 (CX Y) (mat (a ++ q))) [] [] [I before, I a.length] [] k
  | [] => by
    intro a before hb hN hl hs h0 h1
    refine lp_in ?_
    simp (disch := first | omega | (simp <;> omega) | fail) [schismaref07_IsForm_l0]
    exact h0 rfl
  | r :: q => by
    intro a before hb hN hl hs h0 h1
    simp at hN hs
    have hp := piv_lt r
    refine lp_in ?_
    simp (disch := first | omega | (simp <;> omega) | fail) [schismaref07_IsForm_l0]
    refine cd (first_ok (r := r) (by omega)) ?_
    simp only [formGo] at h0 h1
    by_cases hb1 : piv r ≤ before
    · simp (disch := first | omega | (simp <;> omega) | fail) [hb1]
      exact h1 (by simp [hb1])
    · obtain ⟨p, hpp⟩ : ∃ p : Nat, piv r = p := ⟨(piv r).toNat, by omega⟩
      have hne := piv_ne hpp
      have hpr : p < r.length := by omega
      rw [hpp] at h0 h1 hb1 ⊢
      by_cases h : nth 0 r p < 0
      · simp (disch := first | omega | (simp <;> omega) | fail) [hb1, h]
        exact h1 (by simp [show nth 0 r p ≤ 0 by omega])
      · have h2 : ¬ nth 0 r p ≤ 0 := by omega
        simp (disch := first | omega | (simp <;> omega) | fail) [hb1, h]
        refine lo (isf_up (m := a ++ r :: q) (p := p) (i := a.length) (by simp) (r := r) (by simp) hpr (by simp; omega) _ a [] (r :: q) (by simp) (by simp) (fun o ho => ?_) (fun g => ?_) (fun g => ?_))
        · have := hl r (by simp) o (by simp [ho]); omega
        · simp (disch := first | omega | (simp <;> omega) | fail) []
          have := isf_loop k q (a ++ [r]) p (by omega) (by simp; omega) (by simpa using hl) hs.2 (fun e => h0 ?_) (fun e => h1 ?_)
          · simpa using this
          · simp [hb1, g, h2]; exact e
          · simp [g]; intro _ _; exact e
        · simp (disch := first | omega | (simp <;> omega) | fail) []
          exact h1 (by simp [g])
theorem isForm_ok {m : List (List Int)} (hm : okMat m = true) : CP Y F.schismaref07_IsForm [mat m] (B (formGo (-1) [] m)) := by
  refine schismaref07_IsForm_i ?_
  unfold schismaref07_IsForm
  have hl : m.length ≤ 12 := by simp only [okMat, Bool.and_eq_true, decide_eq_true_eq] at hm; exact hm.1
  refine isf_loop _ m [] (-1) (by omega) (by simp; omega) (fun r hr s hs => ?_) (fun r hr => ?_) (fun g => ?_) (fun g => ?_)
  · rw [(okMat_row hm r hr).1, (okMat_row hm s hs).1]
  · have := (okMat_row hm r hr).2.1; omega
  · simp (disch := first | omega | (simp <;> omega) | fail) []
    exact out_b g.symm
  · simp (disch := first | omega | (simp <;> omega) | fail) []
    exact out_b g.symm
end Go.Vm
