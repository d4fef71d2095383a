/- slices.Clone of symbols; the closure of spells. -/
import Derived.Test.YtbdajblfnkoagaaGreatDoorQCkBits
import Derived.Test.YtbdajblfnkoagaaGreatDoorQLawA
import Derived.Test.YtbdajblfnkoagaaGreatDoorQSym
set_option linter.unusedVariables false
set_option linter.unusedSimpArgs false
namespace Go.Vm
open Go Go.Am
@[simp] theorem nilD_lstm {α : Type} (f : α → List D) {l : List α} (h : Hp) (hl : 0 < l.length) (k : V → Prop) (u : PU k) : rn (nilD h .eql (lstm f l) (.d (.pl (.slice none 0 0)))) k u = k (.d (.bool false)) := by
  cases l with
  | nil => simp at hl
  | cons x l => exact rfl
theorem cloneSym_in {h : Hp} (hu : (h.all fun x => underB h.length x.2) = true) {l : List Sym} (hl : 0 < l.length) (hb : l.length < 1000000) : CI Y F.slices_Clone_api_Symbol_api_Symbol [syms l] h (.new 2 (l.flatMap sc) false l.length l.length) h := by
  refine slices_Clone_api_Symbol_api_Symbol_i ?_
  simp (disch := first | omega | (simp <;> omega) | fail) [slices_Clone_api_Symbol_api_Symbol]
  have hli : lisR 0 [D.str [], D.pl (.slice none 0 0)] [] (h ++ [(0, Bk.none), (0, Bk.none)]) = some ([], h ++ [(0, Bk.none), (0, Bk.none)]) := by
    simp [lisR, repl, toDs]
  rw [hli]
  simp (disch := first | omega | (simp <;> omega) | fail) []
  have hfl : (l.flatMap sc).length = l.length * 2 := flat_len sc sc_len l
  refine clone_app (z := []) (by decide) hl hfl (by omega) ?_
  simp (disch := first | omega | (simp <;> omega) | fail) []
  refine ⟨by simp, ?_, .inr (.inr (.inl ⟨h.length + 1, 1, l.length, l.length, 2, l.flatMap sc, false, by simp, by omega, by simp [hget], rfl⟩))⟩
  simp only [List.all_append, hu, Bool.true_and]
  try simp [underB]
theorem cloneSym_nil {h : Hp} (hu : (h.all fun x => underB h.length x.2) = true) : CI Y F.slices_Clone_api_Symbol_api_Symbol [syms []] h (.cut 2) h := by
  refine slices_Clone_api_Symbol_api_Symbol_i ?_
  have e : ∀ (h : Hp) (k : V → Prop), (∀ b, k (.d (.bool b))) → nilD h .eql (syms []) nlV k := fun h k hk => hk
  unfold slices_Clone_api_Symbol_api_Symbol
  refine e _ _ fun b => ?_
  cases b with
  | true =>
    simp (disch := first | omega | (simp <;> omega) | fail) []
    refine ⟨by simp, hu, .inr (.inr (.inr ⟨2, rfl, .inl rfl⟩))⟩
  | false =>
    have hli : lisR 0 [D.str [], D.pl (.slice none 0 0)] [] (h ++ [(0, Bk.none), (0, Bk.none)]) = some ([], h ++ [(0, Bk.none), (0, Bk.none)]) := by
      simp [lisR, repl, toDs]
    simp (disch := first | omega | (simp <;> omega) | fail) [hli]
    have hg : hget (h ++ [(1, Bk.data 2 [] true false), (0, .none)]) h.length 1 = .data 2 [] true false := by simp [hget]
    show apV _ _ _ _ _ _ _ _
    unfold apV
    simp only [syms, lstm, List.length_nil, List.flatMap_nil, cellsOf]
    rw [if_pos (by simp)]
    unfold apC
    rw [if_pos rfl]
    simp only [Nat.le_refl, if_true]
    refine ⟨by simp, hu, .inr (.inr (.inr ⟨2, rfl, .inr ⟨h.length, 1, rfl, Nat.le_refl _, hg⟩⟩))⟩
def symOk (n : Nat) (s : Sym) : Bool := decide (s.2.length = n) && okRow s.2
theorem spellsF_ok (x : List Int) (s : Sym) (hN : x.length < 1000000) (hs : s.2.length < 1000000) : CP Y F.schismalaw55_spells_F1 [symA s, .dptr [row x] 0] (B (!symOk x.length s)) := by
  refine schismalaw55_spells_F1_i ?_
  have e1 : ∀ h : Hp, ld1 h (.dptr [row x] 0) = some (lst di x) := fun h => rfl
  have e2 : lenV (.d (row s.2)) = some (I s.2.length) := rfl
  by_cases h1 : s.2.length = x.length
  · simp (disch := first | omega | (simp <;> omega) | fail) [schismalaw55_spells_F1, e1, e2, h1]
    refine cd (args := [lst di s.2]) (rowRight_ok (r := s.2) (by omega)) ?_ (by simp [snaps])
    simp (disch := first | omega | (simp <;> omega) | fail) []
    exact out_b (by simp [symOk, h1])
  · simp (disch := first | omega | (simp <;> omega) | fail) [schismalaw55_spells_F1, e1, e2, h1]
    exact out_b (by simp [symOk, h1])
end Go.Vm
