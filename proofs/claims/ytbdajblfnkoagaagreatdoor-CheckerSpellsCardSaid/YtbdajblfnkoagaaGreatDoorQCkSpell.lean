/- checker.Spells. -/
import Derived.Test.YtbdajblfnkoagaaGreatDoorQSymB
set_option linter.unusedVariables false
set_option linter.unusedSimpArgs false
namespace Go.Vm
open Go Go.Am
def allF (P : Nat → Bool) : Nat → Nat → Bool
  | 0, _ => true
  | m + 1, c => P c && allF P m (c + 1)
def sumS (noms accs : List Sym) (k : Nat) (cs : List Int) (c : Nat) : Int := nth 0 (nth ([], []) noms k).2 c + dotI cs (colI c (accs.map (·.2)))
def spellsB (noms accs : List Sym) (k : Int) (cs x : List Int) : Bool :=
  decide (0 ≤ k ∧ k < noms.length) && decide (cs.length = accs.length) && okRow cs && okRow x && (noms ++ accs).all (symOk x.length) && allF (fun c => decide (sumS noms accs k.toNat cs c = nth 0 x c)) x.length 0
section
variable {noms accs : List Sym} {kk : Int} {cs x : List Int}
def spH (noms accs : List Sym) (kk : Int) (cs : List Int) : Hp := [(1, .vars [syms noms, syms accs]), (1, .vars [I kk, lst di cs]), (0, .none), (0, .none)]
theorem spells_l0 (l : List Sym) (hN : l.length < 1000000) (hx : x.length < 1000000) (hl : ∀ s ∈ l, s.2.length < 1000000) (k : KL) : ∀ (q p : List Sym), p ++ q = l →
    (q.all (symOk x.length) = true → k (.exit 0) [] (spH noms accs kk cs)) → (q.all (symOk x.length) = false → ∀ h, k .ret [B false] h) →
    lp (checker_Spells_l0 (CX Y) (lst di x) (syms l) (I l.length)) [2] (spH noms accs kk cs) [I p.length] (spH noms accs kk cs) k
  | [], p => by
    intro hp h0 h1
    simp at hp
    subst hp
    refine lp_in ?_
    simp (disch := first | omega | (simp <;> omega) | fail) [checker_Spells_l0]
    exact h0 rfl
  | s :: q, p => by
    intro hp h0 h1
    have hpl : p.length < l.length := by subst hp; simp
    have e3 : nth ([], []) l p.length = s := by subst hp; simp
    have hs := hl s (by subst hp; simp)
    have e1 := fun h : Hp => ixm_nth sc sc_len l h (k := .i64) (i := (p.length : Int)) (by omega) (by omega)
    have e2 := fun h : Hp => ldm_nth sc sc_len ([], []) l h hpl
    simp only [e3, Int.toNat_natCast] at e1 e2
    have e4 : lenV (.d (row s.2)) = some (I s.2.length) := rfl
    refine lp_in ?_
    by_cases g : s.2.length = x.length
    · simp (disch := first | omega | (simp <;> omega) | fail) [checker_Spells_l0, e1, e2, sc, spH, e4, g]
      refine cd (args := [lst di s.2]) (near_ok s.2 (by omega)) ?_ (by simp [snaps])
      cases g2 : okRow s.2 with
      | true =>
        have ih := spells_l0 l hN hx hl k q (p ++ [s]) (by simpa using hp) (fun e => h0 (by simp [symOk, g, g2] at e ⊢; exact e)) (fun e => h1 (by simp [symOk, g, g2] at e ⊢; exact e))
        simp (disch := first | omega | (simp <;> omega) | fail) []
        refine ⟨rfl, ?_⟩
        simp (disch := first | omega | (simp <;> omega) | fail) [reset_cons, reset_end, notIn_nil, notIn_cons, beq_lit]
        simpa [spH] using ih
      | false =>
        simp (disch := first | omega | (simp <;> omega) | fail) []
        exact h1 (by simp [symOk, g2]) _
    · simp (disch := first | omega | (simp <;> omega) | fail) [checker_Spells_l0, e1, e2, sc, spH, e4, g]
      exact h1 (by simp [symOk, g]) _
def spZ (noms accs : List Sym) (kk : Int) (cs : List Int) (z : Int) : Hp := [(1, .vars [syms noms, syms accs]), (1, .vars [I kk, lst di cs]), (0, .none), (1, .vars [.d (.bool (decide (z < 0))), .d (natD z.natAbs)])]
theorem spells_l2 {c : Nat} (hc : ∀ s ∈ accs, okRow s.2 = true ∧ c < s.2.length) (hcs : okRow cs = true) (hN : cs.length ≤ 1000) (k : KL) (h0 : Hp) (hh : h0.length = 4) :
    ∀ (q a : List Int) (r b : List Sym) (z : Int), a ++ q = cs → b ++ r = accs → a.length = b.length → q.length = r.length → (-((a.length + 1 : Nat) * 1000000000000000000 : Int) ≤ z ∧ z ≤ (a.length + 1 : Nat) * 1000000000000000000) →
    (let w := z + dotI q (colI c (r.map (·.2))); (-((cs.length + 1 : Nat) * 1000000000000000000 : Int) ≤ w ∧ w ≤ (cs.length + 1 : Nat) * 1000000000000000000) → k (.exit 4) [] (spZ noms accs kk cs w)) →
    lp (checker_Spells_l2 (CX Y) (.ptr 0 1 0 2) (I c) (.ptr 3 1 0 2) (lst di cs) (I cs.length)) [] h0 [I a.length] (spZ noms accs kk cs z) k
  | [], a => by
    intro r b z ha hb hl hqr hz hk
    simp at ha
    subst ha
    have e : dotI [] (colI c (r.map (·.2))) = 0 := by simp [dotI]
    simp only [e, Int.add_zero] at hk
    refine lp_in ?_
    simp (disch := first | omega | (simp <;> omega) | fail) [checker_Spells_l2]
    exact hk hz
  | y :: q, a => by
    intro r b z ha hb hl hqr hz hk
    cases r with
    | nil => simp at hqr
    | cons s r =>
    have hal : a.length < cs.length := by subst ha; simp
    have hbl : a.length < accs.length := by subst hb; rw [hl]; simp
    have hy : nth 0 cs a.length = y := by subst ha; simp
    have hs : nth ([], []) accs a.length = s := by subst hb; rw [hl]; simp
    have hsb := hc s (by subst hb; simp)
    have hye : okEnt y = true := by
      simp only [okRow, List.all_eq_true] at hcs
      exact hcs y (by subst ha; simp)
    obtain ⟨w, hw⟩ : ∃ w, nth 0 s.2 c = w := ⟨_, rfl⟩
    have hwe : okEnt w = true := by
      have := hsb.1
      simp only [okRow, List.all_eq_true] at this
      rw [← hw]; exact this _ (nth_mem hsb.2)
    have hy1 := okEnt_iff.1 hye
    have hw1 := okEnt_iff.1 hwe
    have hm := mul_ent hye hwe
    have e1 := fun h : Hp => ix_lst di cs h (k := .i64) (i := (a.length : Int)) (j := a.length) rfl hal
    have e2 := fun h : Hp => ld_row cs h hal
    have e3 := fun h : Hp => ixm_nth sc sc_len accs h (k := .i64) (i := (a.length : Int)) (by omega) (by omega)
    have e4 := fun h : Hp => ld1m_nth sc sc_len ([], []) accs h (j := a.length) (o := 1) (x := row s.2) hbl (by decide) (by rw [hs]; rfl)
    have e5 := fun h : Hp => ix_row s.2 h (k := .i64) (i := (c : Int)) (by omega) (by omega)
    have e6 := fun h : Hp => ld_row s.2 h hsb.2
    simp only [hy, hw, Int.toNat_natCast] at e1 e2 e3 e4 e5 e6
    have ih := spells_l2 hc hcs hN k h0 hh q (a ++ [y]) r (b ++ [s]) (z + y * w) (by simpa using ha) (by simpa using hb) (by simp [hl]) (by simpa using hqr) (by simp; omega) (by
      have e : z + dotI (y :: q) (colI c ((s :: r).map (·.2))) = z + y * w + dotI q (colI c (r.map (·.2))) := by simp [dotI, colI, hw, Int.add_assoc]
      rw [e] at hk; exact hk)
    have hz1 := hz.1
    have hz2 := hz.2
    obtain ⟨t, ht⟩ : ∃ t, y * w = t := ⟨_, rfl⟩
    have hti := times_ok (a := y) (b := w) (fits_small (by omega) (by omega)) (fits_small (by omega) (by omega))
    rw [ht] at hti ih hm
    have had := add_ok (a := z) (b := t) (fits_small (by omega) (by omega)) (fits_small (by omega) (by omega))
    refine lp_in ?_
    simp (disch := first | omega | (simp <;> omega) | fail) [checker_Spells_l2, spZ, e1, e2, e3, e4, e5, e6]
    refine cd (number_ok (by omega)) ?_
    simp (disch := first | omega | (simp <;> omega) | fail) [e3, e4, e5, e6]
    refine cd (number_ok (by omega)) ?_
    simp (disch := first | omega | (simp <;> omega) | fail) []
    refine cd hti ?_
    simp (disch := first | omega | (simp <;> omega) | fail) []
    refine cdx (ds := [intV z, intV t]) (by simp [snaps, snap, intV, intL]) had ?_
    simp (disch := first | omega | (simp <;> omega) | fail) [intV, intL, hh]
    simpa [spZ] using ih
theorem spells_l1 (hk0 : 0 ≤ kk ∧ kk < noms.length) (hcl : cs.length = accs.length) (hcs : okRow cs = true) (hx : okRow x = true) (hN : cs.length ≤ 1000) (hxN : x.length < 1000000) (hs : ∀ s ∈ noms ++ accs, symOk x.length s = true) (k : KL) : ∀ (m c : Nat), c + m = x.length →
    (allF (fun c => decide (sumS noms accs kk.toNat cs c = nth 0 x c)) m c = true → k (.exit 2) [] (spH noms accs kk cs)) → (allF (fun c => decide (sumS noms accs kk.toNat cs c = nth 0 x c)) m c = false → ∀ h, k .ret [B false] h) →
    lp (checker_Spells_l1 (CX Y) (.ptr 0 1 0 2) (.ptr 1 1 0 2) (lst di x) (I x.length)) [3] (spH noms accs kk cs) [I c] (spH noms accs kk cs) k
  | 0, c => by
    intro hc h0 h1
    have : c = x.length := by omega
    subst this
    refine lp_in ?_
    simp (disch := first | omega | (simp <;> omega) | fail) [checker_Spells_l1]
    exact h0 rfl
  | m + 1, c => by
    intro hc h0 h1
    have hcx : c < x.length := by omega
    have hkn : kk.toNat < noms.length := by omega
    obtain ⟨s0, hs0⟩ : ∃ s0, nth ([], []) noms kk.toNat = s0 := ⟨_, rfl⟩
    have hok : ∀ s ∈ noms ++ accs, okRow s.2 = true ∧ c < s.2.length := fun s h => by
      have := hs s h
      simp only [symOk, Bool.and_eq_true, decide_eq_true_eq] at this
      exact ⟨this.2, by omega⟩
    have hs1 := hok s0 (by rw [← hs0]; exact List.mem_append_left _ (nth_mem hkn))
    obtain ⟨w, hw⟩ : ∃ w, nth 0 s0.2 c = w := ⟨_, rfl⟩
    obtain ⟨y, hy⟩ : ∃ y, nth 0 x c = y := ⟨_, rfl⟩
    have hwe : okEnt w = true := by
      have := hs1.1
      simp only [okRow, List.all_eq_true] at this
      rw [← hw]; exact this _ (nth_mem hs1.2)
    have hye : okEnt y = true := by
      simp only [okRow, List.all_eq_true] at hx
      rw [← hy]; exact hx _ (nth_mem hcx)
    have hy1 := okEnt_iff.1 hye
    have hw1 := okEnt_iff.1 hwe
    have e1 := fun h : Hp => ix_lst di x h (k := .i64) (i := (c : Int)) (j := c) rfl hcx
    have e2 := fun h : Hp => ld_row x h hcx
    have e3 := fun h : Hp => ixm_nth sc sc_len noms h (k := .i64) (i := kk) hk0.1 hk0.2
    have e4 := fun h : Hp => ld1m_nth sc sc_len ([], []) noms h (j := kk.toNat) (o := 1) (x := row s0.2) hkn (by decide) (by rw [hs0]; rfl)
    have e5 := fun h : Hp => ix_row s0.2 h (k := .i64) (i := (c : Int)) (by omega) (by omega)
    have e6 := fun h : Hp => ld_row s0.2 h hs1.2
    simp only [hy, hw, Int.toNat_natCast] at e1 e2 e3 e4 e5 e6
    refine lp_in ?_
    simp (disch := first | omega | (simp <;> omega) | fail) [checker_Spells_l1, spH, e1, e2, e3, e4, e5, e6]
    refine cd (number_ok (by omega)) ?_
    simp (disch := first | omega | (simp <;> omega) | fail) [intV, intL]
    have hsum : w + dotI cs (colI c (accs.map (·.2))) = sumS noms accs kk.toNat cs c := by simp only [sumS, hs0, hw]
    refine lo (spells_l2 (noms := noms) (kk := kk) (fun s h => hok s (List.mem_append_right _ h)) hcs hN _ _ rfl cs [] accs [] w rfl rfl rfl hcl (by simp; omega) ?_)
    simp only [hsum]
    intro hb
    generalize hS : sumS noms accs kk.toNat cs c = S at hb
    have heq := equal_ok (a := S) (b := y) (fits_small (by omega) (by omega)) (fits_small (by omega) (by omega))
    simp (disch := first | omega | (simp <;> omega) | fail) [spZ]
    refine cd (number_ok (by omega)) ?_
    simp (disch := first | omega | (simp <;> omega) | fail) []
    refine cdx (ds := [intV S, intV y]) (by simp [snaps, snap, intV, intL]) heq ?_
    by_cases g : S = y
    · have ih := spells_l1 hk0 hcl hcs hx hN hxN hs k m (c + 1) (by omega) (fun e => h0 (by simp only [allF, hS, hy, g, decide_true, Bool.true_and]; exact e)) (fun e => h1 (by simp only [allF, hS, hy, g, decide_true, Bool.true_and]; exact e))
      simp (disch := first | omega | (simp <;> omega) | fail) [g]
      refine ⟨rfl, ?_⟩
      simp (disch := first | omega | (simp <;> omega) | fail) [reset_cons, reset_end, notIn_nil, notIn_cons, beq_lit]
      simpa [spH] using ih
    · simp (disch := first | omega | (simp <;> omega) | fail) [g]
      exact h1 (by simp [allF, hS, hy, g]) _
theorem spellsC_ok (hn : noms.length < 1000) (ha : accs.length < 1000) (hN : cs.length ≤ 1000) (hxN : x.length < 1000000) (hl : ∀ s ∈ noms ++ accs, s.2.length < 1000000) :
    CP Y F.checker_Spells [.agg [syms noms, syms accs], .agg [I kk, lst di cs], lst di x] (B (spellsB noms accs kk cs x)) := by
  refine checker_Spells_i ?_
  have l1 : lenV (syms noms) = some (I noms.length) := rfl
  have l2 : lenV (syms accs) = some (I accs.length) := rfl
  by_cases g1 : kk < 0
  · simp (disch := first | omega | (simp <;> omega) | fail) [checker_Spells, l1, l2, g1]
    exact out_b (by simp [spellsB]; omega)
  by_cases g2 : (noms.length : Int) ≤ kk
  · simp (disch := first | omega | (simp <;> omega) | fail) [checker_Spells, l1, l2, g1, g2]
    exact out_b (by simp [spellsB]; omega)
  by_cases g3 : cs.length = accs.length
  case neg =>
    simp (disch := first | omega | (simp <;> omega) | fail) [checker_Spells, l1, l2, g1, g2, g3]
    exact out_b (by simp [spellsB, g3])
  have near1 := near_ok cs (by omega)
  have near2 := near_ok x (by omega)
  cases g4 : okRow cs with
  | false =>
    rw [g4] at near1
    simp (disch := first | omega | (simp <;> omega) | fail) [checker_Spells, l1, l2, g1, g2, g3]
    refine cd near1 ?_
    simp (disch := first | omega | (simp <;> omega) | fail) []
    exact out_b (by simp [spellsB, g4])
  | true =>
    rw [g4] at near1
    simp (disch := first | omega | (simp <;> omega) | fail) [checker_Spells, l1, l2, g1, g2, g3]
    refine cd near1 ?_
    simp (disch := first | omega | (simp <;> omega) | fail) []
    cases g5 : okRow x with
    | false =>
      rw [g5] at near2
      refine cd near2 ?_
      simp (disch := first | omega | (simp <;> omega) | fail) []
      exact out_b (by simp [spellsB, g5])
    | true =>
      rw [g5] at near2
      refine cd near2 ?_
      have hli : ∀ h : Hp, lisR 2 [D.pl (.slice none 0 0)] [(0, syms noms), (1, syms accs)] h = some ([pr (noms.length, noms.flatMap sc), pr (accs.length, accs.flatMap sc)], h) := fun h => by
        simp [lisR, repl, toDs, toD, lstm, fillP, cellsV, pr]
      have hco := concatSym_ok (a := (noms.length, noms.flatMap sc)) (b := (accs.length, accs.flatMap sc)) hn ha (flat_len sc sc_len noms) (flat_len sc sc_len accs)
      have hsy : V.d (.sl ((noms.length, noms.flatMap sc).1 + (accs.length, accs.flatMap sc).1) ((noms.length, noms.flatMap sc).2 ++ (accs.length, accs.flatMap sc).2)) = syms (noms ++ accs) := by simp [lstm]
      rw [hsy] at hco
      have hlA : lenV (syms (noms ++ accs)) = some (I (noms ++ accs).length) := rfl
      have hnl : (noms ++ accs).length < 1000000 := by simp; omega
      generalize hl3 : noms ++ accs = l3 at hco hlA hl hnl
      simp (disch := first | omega | (simp <;> omega) | fail) [hli]
      refine cd hco ?_ (by simp [snaps, snap, pr])
      simp (disch := first | omega | (simp <;> omega) | fail) [hlA]
      refine lo (spells_l0 (noms := noms) (accs := accs) (kk := kk) (cs := cs) l3 hnl hxN hl _ l3 [] rfl (fun e => ?_) (fun e h => ?_))
      · simp only [exK_exit]
        simp (disch := first | omega | (simp <;> omega) | fail) []
        refine lo (spells_l1 (by omega) g3 g4 g5 hN hxN (fun s hs => by rw [hl3] at hs; exact List.all_eq_true.1 e s hs) _ x.length 0 (by omega) (fun e2 => ?_) (fun e2 h => ?_))
        · simp only [exK_exit]
          exact out_b (by simp only [spellsB, hl3, e, e2, g3, g4, g5]; simp; omega)
        · simp only [exK_ret2, exK_ret]
          exact out_b (by simp only [spellsB, hl3, e, e2, g3, g4, g5]; simp)
      · simp only [exK_ret2, exK_ret]
        exact out_b (by simp only [spellsB, hl3, e, g3, g4, g5]; simp)
end
end Go.Vm
