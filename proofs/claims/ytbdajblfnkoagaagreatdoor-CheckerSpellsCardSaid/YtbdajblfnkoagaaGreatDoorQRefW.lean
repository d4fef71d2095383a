/- ref03.trim. -/
import Derived.Test.YtbdajblfnkoagaaGreatDoorQRefSub
import Derived.Test.YtbdajblfnkoagaaGreatDoorQStr
set_option linter.unusedVariables false
set_option linter.unusedSimpArgs false
namespace Go.Vm
open Go Go.Am Go.Big
theorem st_lst (a c : V) (b1 : Nat × Bk) (l : List Nat) : st [(1, .vars [a, c]), b1] 1 (.ptr 0 1 1 2) (lst i9 l) = some [(1, .vars [a, lst i9 l]), b1] := by
  simp [st, sto, lst, hget, hset, okV]
theorem trim9_loop (k : KL) (h0 : Hp) (hh : h0.length = 2) (s : D) (b1 : Nat × Bk) : ∀ (n : Nat) (l : List Nat), l.length = n → n < 1000000000 →
    (k (.exit 0) [] [(1, .vars [.d s, lst i9 (trimL l)]), b1]) →
    lp (schismaref03_trim_l0 (CX Y) (.ptr 0 1 0 2)) [] h0 [] [(1, .vars [.d s, lst i9 l]), b1] k := by
  intro n
  induction n with
  | zero =>
    intro l hl hn hk
    have : l = [] := List.eq_nil_of_length_eq_zero hl
    subst this
    refine lp_in ?_
    simp (disch := first | omega | (simp <;> omega) | fail) [schismaref03_trim_l0]
    exact hk
  | succ n ih =>
    intro l hl hn hk
    obtain ⟨l, x, rfl⟩ : ∃ l' x, l = l' ++ [x] := ⟨l.dropLast, l.getLast (by intro e; simp [e] at hl), (List.dropLast_concat_getLast _).symm⟩
    have hl2 : l.length = n := by simpa using hl
    refine lp_in ?_
    simp (disch := first | omega | (simp <;> omega) | fail) [schismaref03_trim_l0]
    by_cases hx : x = 0
    · subst hx
      rw [trimL_snoc_zero] at hk
      simp (disch := first | omega | (simp <;> omega) | fail) [i9, hh]
      rw [st_lst]
      simp (disch := first | omega | (simp <;> omega) | fail) [hh]
      exact ih l hl2 (by omega) hk
    · rw [trimL_snoc hx] at hk
      simp (disch := first | omega | (simp <;> omega) | fail) [i9, show ¬ (x : Int) = 0 by omega]
      exact hk
def wh (s : Bool) (n : Nat) : V := .agg [.d (.bool s), nat9 n]
theorem out_wh (s : Bool) (n : Nat) (h : Hp) : out (wh s n) (.agg [.d (.bool s), lst i9 (dig Z n)]) h := by
  refine ⟨h, ?_⟩
  unfold wh nat9
  simp [snap, snaps]
theorem trim9_ok {s : Bool} {l : List Nat} (hl : Small Z l) (hn : l.length < 1000000000) : CP Y F.schismaref03_trim [.agg [.d (.bool s), lst i9 l]] (wh (s && decide (0 < val Z l)) (val Z l)) := by
  refine schismaref03_trim_i ?_
  simp (disch := first | omega | (simp <;> omega) | fail) [schismaref03_trim]
  refine lo (trim9_loop _ _ rfl (.bool s) _ l.length l rfl hn ?_)
  have ht : lst i9 (trimL l) = nat9 (val Z l) := by rw [nat9, dig_val two_le_Z hl]
  rw [ht]
  have hp : (0 < (dig Z (val Z l)).length) ↔ (0 < val Z l) := by
    have := dig_eq_nil two_le_Z (n := val Z l)
    rw [List.length_pos_iff, ne_eq, this]
    omega
  have ho : ∀ f : List Nat, okV (lst i9 f) = true := fun _ => rfl
  generalize hD : dig Z (val Z l) = d9 at *
  cases s
  · simp (disch := first | omega | (simp <;> omega) | fail) [nat9, hD, ho]
    subst hD
    exact out_wh _ _ _
  · simp (disch := first | omega | (simp <;> omega) | fail) [nat9, hD, ho]
    subst hD
    simp only [hp]
    exact out_wh _ _ _
end Go.Vm
set_option linter.unusedVariables false
set_option linter.unusedSimpArgs false
namespace Go.Vm
open Go Go.Am Go.Big
theorem trim9_dig (s : Bool) {n : Nat} (hn : len9 n < 1000000000) : CP Y F.schismaref03_trim [.agg [.d (.bool s), nat9 n]] (wh (s && decide (0 < n)) n) := by
  have := trim9_ok (s := s) (dig_small two_le_Z n) hn
  rwa [val_dig two_le_Z] at this
end Go.Vm
set_option linter.unusedVariables false
set_option linter.unusedSimpArgs false
namespace Go.Vm
open Go Go.Am Go.Big
theorem fillW (s : Bool) (l : List Nat) : fillP (some (1, 1)) (fun i => [(0, 1), (1, 1)][i]?) [V.d (D.bool s), V.d (D.pl (Value.slice none 0 0))] (lst i9 l) [] = some [V.d (D.bool s), lst i9 l] := by
  simp [fillP, lst, cellsV]
theorem fillN (s : Bool) (n : Nat) : fillP (some (1, 1)) (fun i => [(0, 1), (1, 1)][i]?) [V.d (D.bool s), V.d (D.pl (Value.slice none 0 0))] (nat9 n) [] = some [V.d (D.bool s), nat9 n] := fillW s _
theorem okV9 (n : Nat) : okV (nat9 n) = true := rfl
theorem trim9_fix (s : Bool) {w n : Nat} (hw : w < 1000000000) (hn : n < Z ^ w) : CP Y F.schismaref03_trim [.agg [.d (.bool s), lst i9 (fixZ w n)]] (wh (s && decide (0 < n)) n) := by
  have := trim9_ok (s := s) (fixZ_small w n) (by rw [fixZ_len]; exact hw)
  rwa [fixZ_val w n hn] at this
theorem addW_same {s : Bool} {n m : Nat} (hn : len9 n < 1000000000) (hm : len9 m < 1000000000) (hs : len9 (n + m) < 1000000000) : CP Y F.schismaref03_AddW [wh s n, wh s m] (wh (s && decide (0 < n + m)) (n + m)) := by
  refine schismaref03_AddW_i ?_
  simp (disch := first | omega | (simp <;> omega) | fail) [schismaref03_AddW, wh]
  refine cd (plus9_ok hn hm) ?_ (by simp [snaps, snap, nat9])
  simp (disch := first | omega | (simp <;> omega) | fail) []
  rw [fillN]
  simp (disch := first | omega | (simp <;> omega) | fail) []
  refine cd (trim9_dig s hs) ?_ (by simp [snaps, snap, nat9])
  simp (disch := first | omega | (simp <;> omega) | fail) [wh, okV9]
  exact out_wh _ _ _
theorem addW_diff {s t : Bool} (hst : (s == t) = false) {n m : Nat} (hn : len9 n < 1000000000) (hm : len9 m < 1000000000) : CP Y F.schismaref03_AddW [wh s n, wh t m] (if m ≤ n then wh (s && decide (0 < n - m)) (n - m) else wh (t && decide (0 < m - n)) (m - n)) := by
  refine schismaref03_AddW_i ?_
  have hlt : ∀ a b : Nat, a - b < Z ^ len9 a := fun a b => Nat.lt_of_le_of_lt (Nat.sub_le a b) ((dig_len two_le_Z (n := a)).1 (Nat.le_refl _))
  simp (disch := first | omega | (simp <;> omega) | fail) [schismaref03_AddW, wh, hst]
  have h40 : (2 : Nat) ^ 40 = 1099511627776 := by decide
  refine cd (above_ok (by omega) (by omega)) ?_ (by simp [snaps, snap, nat9])
  by_cases h : m ≤ n
  · have hc : (0 : Int) ≤ cmp n m := by unfold cmp; rw [if_neg (by omega)]; split <;> omega
    simp (disch := first | omega | (simp <;> omega) | fail) [hc]
    refine cd (minus9_ok h hn) ?_ (by simp [snaps, snap, nat9])
    simp (disch := first | omega | (simp <;> omega) | fail) []
    rw [fillW]
    simp (disch := first | omega | (simp <;> omega) | fail) []
    refine cd (trim9_fix s hn (hlt n m)) ?_ (by simp [snaps, snap])
    simp (disch := first | omega | (simp <;> omega) | fail) [wh, okV9, h]
    exact out_wh _ _ _
  · have hc : ¬ (0 : Int) ≤ cmp n m := by unfold cmp; rw [if_pos (by omega)]; omega
    simp (disch := first | omega | (simp <;> omega) | fail) [hc]
    refine cd (minus9_ok (by omega) hm) ?_ (by simp [snaps, snap, nat9])
    simp (disch := first | omega | (simp <;> omega) | fail) []
    rw [fillW]
    simp (disch := first | omega | (simp <;> omega) | fail) []
    refine cd (trim9_fix t hm (hlt m n)) ?_ (by simp [snaps, snap])
    simp (disch := first | omega | (simp <;> omega) | fail) [wh, okV9, h]
    exact out_wh _ _ _
end Go.Vm
set_option linter.unusedVariables false
set_option linter.unusedSimpArgs false
namespace Go.Vm
open Go Go.Am Go.Big
theorem signW_ok {s : Bool} {n : Nat} (hn : len9 n < 1000000000) : CP Y F.schismaref03_SignW [wh s n] (I (if n = 0 then 0 else if s then -1 else 1)) := by
  refine schismaref03_SignW_i ?_
  have hz := dig_eq_nil two_le_Z (n := n)
  by_cases h : n = 0
  · subst h
    simp (disch := first | omega | (simp <;> omega) | fail) [schismaref03_SignW, wh, nat9, dig_zero]
  · have hl : ¬ (dig Z n).length = 0 := fun e => h (hz.1 (List.eq_nil_of_length_eq_zero e))
    cases s
    · simp (disch := first | omega | (simp <;> omega) | fail) [schismaref03_SignW, wh, nat9, h, hl]
    · simp (disch := first | omega | (simp <;> omega) | fail) [schismaref03_SignW, wh, nat9, h, hl]
end Go.Vm
set_option linter.unusedVariables false
set_option linter.unusedSimpArgs false
namespace Go.Vm
open Go Go.Am Go.Big
def intW (z : Int) : V := wh (decide (z < 0)) z.natAbs
theorem addW_ok {x y : Int} (hx : len9 x.natAbs < 1000000000) (hy : len9 y.natAbs < 1000000000) (hs : len9 (x.natAbs + y.natAbs) < 1000000000) : CP Y F.schismaref03_AddW [intW x, intW y] (intW (x + y)) := by
  by_cases h : decide (x < 0) = decide (y < 0)
  · have := addW_same (s := decide (x < 0)) hx hy hs
    unfold intW
    rw [← h]
    have e : (x + y).natAbs = x.natAbs + y.natAbs := by simp only [decide_eq_decide] at h; omega
    have e2 : decide (x + y < 0) = (decide (x < 0) && decide (0 < x.natAbs + y.natAbs)) := by
      simp only [decide_eq_decide] at h
      rw [← Bool.decide_and, decide_eq_decide]
      omega
    rw [e, e2]
    exact this
  · have hb : (decide (x < 0) == decide (y < 0)) = false := by simpa using h
    have := addW_diff hb hx hy
    simp only [decide_eq_decide] at h
    by_cases hle : y.natAbs ≤ x.natAbs
    · rw [if_pos hle] at this
      unfold intW
      have e : (x + y).natAbs = x.natAbs - y.natAbs := by omega
      have e2 : decide (x + y < 0) = (decide (x < 0) && decide (0 < x.natAbs - y.natAbs)) := by
        rw [← Bool.decide_and, decide_eq_decide]
        omega
      rw [e, e2]
      exact this
    · rw [if_neg hle] at this
      unfold intW
      have e : (x + y).natAbs = y.natAbs - x.natAbs := by omega
      have e2 : decide (x + y < 0) = (decide (y < 0) && decide (0 < y.natAbs - x.natAbs)) := by
        rw [← Bool.decide_and, decide_eq_decide]
        omega
      rw [e, e2]
      exact this
end Go.Vm
set_option linter.unusedVariables false
set_option linter.unusedSimpArgs false
namespace Go.Vm
open Go Go.Am Go.Big
theorem refInt_ok {z : Int} (h1 : -9223372036854775808 < z) (h2 : z < 9223372036854775808) : CP Y F.schismaref03_Int [I z] (S (itoa z)) := by
  refine schismaref03_Int_i ?_
  simp (disch := first | omega | (simp <;> omega) | fail) [schismaref03_Int]
  refine cd (itoa_ok h1 h2) ?_
  exact out_s rfl
end Go.Vm
