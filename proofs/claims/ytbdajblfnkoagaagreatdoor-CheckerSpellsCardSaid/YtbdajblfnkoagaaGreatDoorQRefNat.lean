/- Natural numbers to the base 10^9 of the reference: what its functions find. -/
import Derived.Test.YtbdajblfnkoagaaGreatDoorQCkForm
import Derived.Test.YtbdajblfnkoagaaGreatDoorQT
set_option linter.unusedVariables false
set_option linter.unusedSimpArgs false
namespace Go.Vm
open Go Go.Am Go.Big
def Z : Nat := 1000000000
theorem two_le_Z : 2 ≤ Z := by decide
theorem Z_pos : 0 < Z := by decide
def i9 (n : Nat) : D := .int .i64 n
def nat9 (n : Nat) : V := lst i9 (dig Z n)
def len9 (n : Nat) : Nat := (dig Z n).length
theorem len9_le {n k : Nat} (h : n < Z ^ k) : len9 n ≤ k := (dig_len two_le_Z).2 h
theorem above_loop (a b : List Nat) (hab : a.length = b.length) (hs : a.length < 2 ^ 40) (k : KL) : ∀ i : Nat, i ≤ a.length → (ordL a b i = 0 → k (.exit 0) [] []) → (ordL a b i ≠ 0 → k .ret [I (ordL a b i)] []) →
    lp (schismaref03_above_l0 (CX Y) (lst i9 a) (lst i9 b)) [] [] [I ((i : Int) - 1)] [] k
  | 0, _, h0, _ => by
    refine lp_in ?_
    simp [schismaref03_above_l0]
    exact h0 rfl
  | i + 1, hi, h0, h1 => by
    refine lp_in ?_
    have ha : i < a.length := by omega
    have hb : i < b.length := by omega
    have h40 : (2 : Nat) ^ 40 = 1099511627776 := by decide
    have e1 : ((i + 1 : Nat) : Int) - 1 = i := by omega
    simp only [schismaref03_above_l0, e1, ge_zero, biI_geq, bnd_some, cnd_dec]
    rw [if_pos (by omega)]
    simp only [ix_lst i9 a [] rfl ha, ix_lst i9 b [] rfl hb, ld_lst i9 _ [] ha, ld_lst i9 _ [] hb, bnd_some, i9, biI_lss, biI_gtr, cnd_dec, Int.ofNat_lt]
    have ea : a.getD i 0 = a[i] := by simp [ha]
    have eb : b.getD i 0 = b[i] := by simp [hb]
    simp only [ordL, ea, eb] at h0 h1
    split
    · rename_i hlt
      rw [if_pos hlt] at h1
      exact h1 (by decide)
    · rename_i hlt
      rw [if_neg hlt] at h0 h1
      split
      · rename_i hgt
        rw [if_pos hgt] at h1
        exact h1 (by decide)
      · rename_i hgt
        rw [if_neg hgt] at h0 h1
        rw [sub64 (by omega)]
        simp only [bnd_some, lpK_normal, clean_nil, true_and]
        exact above_loop a b hab hs k i (by omega) h0 h1
theorem above_ok {a b : Nat} (ha : len9 a < 2 ^ 40) (hb : len9 b < 2 ^ 40) : CP Y F.schismaref03_above [nat9 a, nat9 b] (I (cmp a b)) := by
  have h40 : (2 : Nat) ^ 40 = 1099511627776 := by decide
  refine schismaref03_above_i ?_
  simp only [schismaref03_above, List.replicate, nat9, lenV_lst, bnd_some, biI_neq, cnd_dec, biI_lss]
  by_cases hl : (dig Z a).length = (dig Z b).length
  · rw [if_neg (by omega)]
    rw [sub64 (by unfold len9 at ha; omega)]
    simp only [bnd_some]
    have ho := ordL_eq Z_pos (dig_small two_le_Z a) (dig_small two_le_Z b) (dig Z a).length (Nat.le_refl _) (by omega)
    rw [List.take_length, hl, List.take_length, val_dig two_le_Z, val_dig two_le_Z, ← hl] at ho
    refine above_loop (dig Z a) (dig Z b) hl ha _ _ (Nat.le_refl _) (fun h0 => ?_) (fun h0 => ?_)
    · simp only [exK_exit]
      rw [← ho, h0]; exact out_int ..
    · simp only [exK_ret2, exK_ret, ge_zero]
      rw [← ho]; exact out_int ..
  · rw [if_pos (by omega)]
    split
    · rename_i h
      have := cmp_len two_le_Z (m := a) (n := b) (by omega)
      rw [show cmp a b = -1 by simp [cmp, this]]
      exact out_int ..
    · rename_i h
      have := cmp_len two_le_Z (m := b) (n := a) (by omega)
      rw [show cmp a b = 1 by unfold cmp; rw [if_neg (by omega), if_pos this]]
      exact out_int ..
theorem dig_cons {n : Nat} (h : 0 < n) : dig Z n = n % Z :: dig Z (n / Z) := by
  refine norm_inj Z_pos (dig_small two_le_Z n) ?_ (dig_norm two_le_Z n) ?_ ?_
  · intro x hx
    simp only [List.mem_cons] at hx
    rcases hx with rfl | hx
    · exact Nat.mod_lt _ Z_pos
    · exact dig_small two_le_Z _ x hx
  · intro hne
    by_cases hz : n / Z = 0
    · have hm : n % Z = n := Nat.mod_eq_of_lt (by (have := Nat.div_eq_zero_iff (a := n) (b := Z)); simp only [Z] at *; omega)
      simp only [hz, dig_zero, List.getLast_singleton, hm]
      omega
    · have hne2 : dig Z (n / Z) ≠ [] := fun e => hz ((dig_eq_nil two_le_Z).1 e)
      rw [List.getLast_cons hne2]
      exact dig_norm two_le_Z _ hne2
  · rw [val_dig two_le_Z, val, val_dig two_le_Z]
    have := Nat.mod_add_div n Z
    omega
def ac1 : Acc := ⟨0, 0, 1, .none⟩
def acH (d : List Nat) : Hp := [ac1.b d.length (d.map i9)]
def acV (d : List Nat) : V := ac1.v d.length (d.map i9)
theorem ac_app {d : List Nat} {x : Nat} {q : V → Hp → Prop} {u : PU q} (hb : d.length < 1000000000000) (hq : q (acV (d ++ [x])) (acH (d ++ [x]))) : rh (apV false 0 1 8 (acV d) (.d (.sl 1 [i9 x])) (acH d)) q u := by
  refine acc_app ac1 (k := 1) (cs := [i9 x]) (by omega) (by rfl) (by simp [ac1]) (by simp [ac1]) rfl (by simp) (by omega) (by simp [ac1]) ?_
  simpa [acV, acH, ac1] using hq
theorem plus9_step {a b : List Nat} (ha : Small Z a) (hb : Small Z b) (hla : a.length < 1000000000) (hlb : b.length < 1000000000) {c i : Nat} (hc : c ≤ 1) (hi : i < 1000000002) {d : List Nat} (hd : d.length = i) (q : Exit → List V → Hp → Prop)
    (hcase : i < a.length ∨ (¬ i < a.length ∧ i < b.length) ∨ (¬ i < a.length ∧ ¬ i < b.length ∧ 0 < c))
    (hq : q .normal [I ((c + a.getD i 0 + b.getD i 0) / Z : Nat), acV (d ++ [(c + a.getD i 0 + b.getD i 0) % Z]), I (i + 1 : Nat)] (acH (d ++ [(c + a.getD i 0 + b.getD i 0) % Z]))) :
    schismaref03_plus_l0 (CX Y) (lst i9 a) (lst i9 b) [I c, acV d, I i] (acH d) q := by
  have hxa := ha.getD Z_pos i
  have hxb := hb.getD Z_pos i
  simp only [Z] at hxa hxb hq
  have hx0 : ¬ i < a.length → a.getD i 0 = 0 := fun h => by rw [List.getD_eq_getElem?_getD, List.getElem?_eq_none (by omega)]; rfl
  have hy0 : ¬ i < b.length → b.getD i 0 = 0 := fun h => by rw [List.getD_eq_getElem?_getD, List.getElem?_eq_none (by omega)]; rfl
  have nx : nth 0 a i = a.getD i 0 := rfl
  have ny : nth 0 b i = b.getD i 0 := rfl
  generalize a.getD i 0 = x at *
  generalize b.getD i 0 = y at *
  have main : ∀ t : Bool, t = decide ((i : Int) < (a.length : Int)) → jn (fun l13 h =>
      bnd (lenV (lst i9 b)) fun v15 =>
      bnd (biI .lss (I i) v15) fun v16 =>
      jn (fun l17 h =>
        bnd (biI .rem (ge l17 0) (.d (.int .i64 1000000000))) fun v19 =>
        lisD 1 [.int .i64 0] [(0, v19)] h fun v20 h =>
        apV false 0 1 8 (acV d) v20 h fun v21 h =>
        bnd (biI .quo (ge l17 0) (.d (.int .i64 1000000000))) fun v22 =>
        bnd (biI .add (I i) (.d (.int .i64 1))) fun v23 =>
        q .normal [v22, v21, v23] h) fun q18 =>
        cnd v16 (
          bnd (ixV h 1 (lst i9 b) (I i)) fun v24 =>
          bnd (ld1 h v24) fun v25 =>
          bnd (biI .add (ge l13 0) v25) fun v26 =>
          q18 [v26] h) (
          q18 [(ge l13 0)] h)) fun q14 =>
      cnd (.d (.bool t)) (
        bnd (ixV (acH d) 1 (lst i9 a) (I i)) fun v27 =>
        bnd (ld1 (acH d) v27) fun v28 =>
        bnd (biI .add (I c) v28) fun v29 =>
        q14 [v29] (acH d)) (
        q14 [I c] (acH d)) := by
    intro t ht
    subst ht
    simp (disch := first | omega | (simp <;> omega) | fail) []
    refine jo_to (l := [I (c + x : Nat)]) (h := acH d) (fun q => ?_) ?_
    · by_cases h : i < a.length
      · simp (disch := first | omega | (simp <;> omega) | fail) [h]
        rw [ld_nth i9 0 a _ h, nx]
        simp (disch := first | omega | (simp <;> omega) | fail) [i9]
      · have := hx0 h
        subst this
        simp (disch := first | omega | (simp <;> omega) | fail) [h]
    simp (disch := first | omega | (simp <;> omega) | fail) []
    refine jo_to (l := [I (c + x + y : Nat)]) (h := acH d) (fun q => ?_) ?_
    · by_cases h : i < b.length
      · simp (disch := first | omega | (simp <;> omega) | fail) [h]
        rw [ld_nth i9 0 b _ h, ny]
        simp (disch := first | omega | (simp <;> omega) | fail) [i9]
      · have := hy0 h
        subst this
        simp (disch := first | omega | (simp <;> omega) | fail) [h]
    simp (disch := first | omega | (simp <;> omega) | fail) [Int.tmod_eq_emod_of_nonneg, Int.tdiv_eq_ediv_of_nonneg]
    have hl : lisR 1 [D.int IntKind.i64 0] [(0, V.d (D.int IntKind.i64 (((c : Int) + x + y) % 1000000000)))] (acH d) = some ([i9 ((c + x + y) % 1000000000)], acH d) := by
      simp [lisR, i9, repl, toDs, toD]
    rw [hl]
    simp (disch := first | omega | (simp <;> omega) | fail) []
    refine ac_app (by omega) ?_
    simp (disch := first | omega | (simp <;> omega) | fail) [Int.tmod_eq_emod_of_nonneg, Int.tdiv_eq_ediv_of_nonneg]
    simpa using hq
  rcases hcase with c1 | ⟨c1, c2⟩ | ⟨c1, c2, c3⟩
  · simp (disch := first | omega | (simp <;> omega) | fail) [schismaref03_plus_l0, c1]
    exact main _ (by simp; omega)
  · simp (disch := first | omega | (simp <;> omega) | fail) [schismaref03_plus_l0, c1, c2]
    exact main _ (by simp; omega)
  · simp (disch := first | omega | (simp <;> omega) | fail) [schismaref03_plus_l0, c1, c2, c3]
    exact main _ (by simp; omega)
theorem norm_drop {l : List Nat} (h : Norm l) (i : Nat) : Norm (l.drop i) := by
  intro hne
  have hl : l ≠ [] := fun e => hne (by simp [e])
  rw [List.getLast_drop]
  exact h hl
theorem drop_val_ne {l : List Nat} (h : Norm l) {i : Nat} (hi : i < l.length) : val Z (l.drop i) ≠ 0 :=
  norm_val_ne (norm_drop h i) (fun e => by have := congrArg List.length e; simp at this; omega) Z_pos
theorem plus9_loop {a b : List Nat} (ha : Small Z a) (hb : Small Z b) (na : Norm a) (nb : Norm b) (M : Nat) (hla : a.length ≤ M) (hlb : b.length ≤ M) (hM : M < 1000000000) (k : KL) (h0 : Hp) (hh : h0.length = 1) :
    ∀ (R c i : Nat) (d : List Nat), R = val Z (a.drop i) + val Z (b.drop i) + c → c ≤ 1 → d.length = i → (i ≤ M ∨ (i = M + 1 ∧ c = 0)) → k (.exit 0) [acV (d ++ dig Z R)] (acH (d ++ dig Z R)) →
    lp (schismaref03_plus_l0 (CX Y) (lst i9 a) (lst i9 b)) [] h0 [I c, acV d, I i] (acH d) k := by
  intro R
  induction R using Nat.strongRecOn with
  | _ R ih =>
    intro c i d hR hc hd hi hk
    refine lp_in ?_
    by_cases hz : R = 0
    · have g1 : ¬ i < a.length := fun h => drop_val_ne na h (by omega)
      have g2 : ¬ i < b.length := fun h => drop_val_ne nb h (by omega)
      have g3 : c = 0 := by omega
      subst hz g3
      simp (disch := first | omega | (simp <;> omega) | fail) [schismaref03_plus_l0, g1, g2]
      simpa [dig_zero] using hk
    · have hcase : i < a.length ∨ (¬ i < a.length ∧ i < b.length) ∨ (¬ i < a.length ∧ ¬ i < b.length ∧ 0 < c) := by
        by_cases g1 : i < a.length
        · exact .inl g1
        · by_cases g2 : i < b.length
          · exact .inr (.inl ⟨g1, g2⟩)
          · refine .inr (.inr ⟨g1, g2, ?_⟩)
            rw [List.drop_eq_nil_of_le (by omega), List.drop_eq_nil_of_le (by omega)] at hR
            simp only [val] at hR
            omega
      have hxa := ha.getD Z_pos i
      have hxb := hb.getD Z_pos i
      have hx0 : ¬ i < a.length → a.getD i 0 = 0 := fun h => by rw [List.getD_eq_getElem?_getD, List.getElem?_eq_none (by omega)]; rfl
      have hy0 : ¬ i < b.length → b.getD i 0 = 0 := fun h => by rw [List.getD_eq_getElem?_getD, List.getElem?_eq_none (by omega)]; rfl
      refine plus9_step ha hb (by omega) (by omega) hc (by omega) hd _ hcase ?_
      simp only [lpK_normal, clean_nil, true_and]
      rw [reset_nil 0 h0 _ (by simp [acH, hh])]
      rw [val_drop a i, val_drop b i] at hR
      generalize a.getD i 0 = x at *
      generalize b.getD i 0 = y at *
      generalize hAA : val Z (a.drop (i + 1)) = A at *
      generalize hBB : val Z (b.drop (i + 1)) = B at *
      have hZ : Z = 1000000000 := rfl
      have hmod : R % Z = (c + x + y) % Z := by simp only [hZ] at *; omega
      have hdiv : R / Z = A + B + (c + x + y) / Z := by simp only [hZ] at *; omega
      refine ih (R / Z) (Nat.div_lt_self (by omega) (by decide)) _ _ _ (by rw [hdiv, hAA, hBB]) (by simp only [hZ] at *; omega) (by simp [hd]) ?_ ?_
      · simp only [hZ] at *
        omega
      · rw [← hmod]
        rw [dig_cons (by omega)] at hk
        simpa using hk
theorem plus9_ok {a b : Nat} (ha : len9 a < 1000000000) (hb : len9 b < 1000000000) : CP Y F.schismaref03_plus [nat9 a, nat9 b] (nat9 (a + b)) := by
  refine schismaref03_plus_i ?_
  unfold schismaref03_plus
  refine plus9_loop (dig_small two_le_Z a) (dig_small two_le_Z b) (dig_norm two_le_Z a) (dig_norm two_le_Z b) (max (len9 a) (len9 b)) (by unfold len9; omega) (by unfold len9; omega) (by omega) _ _ rfl (a + b) 0 0 [] (by simp [val_dig two_le_Z]) (by omega) rfl (by omega) ?_
  simp (disch := first | omega | (simp <;> omega) | fail) []
  exact acc_out ac1 (h := acH (dig Z (a + b))) (L := (dig Z (a + b)).length) (cells := (dig Z (a + b)).map i9) rfl (by simp [ac1])
end Go.Vm
