/- ref07: Product. -/
import Derived.Test.YtbdajblfnkoagaaGreatDoorQLawM
import Derived.Test.YtbdajblfnkoagaaGreatDoorQRefMat
set_option linter.unusedVariables false
set_option linter.unusedSimpArgs false
namespace Go.Vm
open Go Go.Am Go.Big
def rowFrom (r : List Int) (b : List (List Int)) : Nat → Nat → List Int
  | 0, _ => []
  | k + 1, c => dotI r (colI c b) :: rowFrom r b k (c + 1)
def prodI (a b : List (List Int)) (n : Nat) : List (List Int) := a.map fun r => rowFrom r b n 0
theorem rowFrom_len (r : List Int) (b : List (List Int)) : ∀ k c, (rowFrom r b k c).length = k
  | 0, _ => rfl
  | k + 1, c => by simp [rowFrom, rowFrom_len r b k]
def smB (s : Int) : Nat × Bk := (1, .vars [.d (.bool (decide (s < 0))), nat9 s.natAbs])
theorem prod_l2 {a b : List (List Int)} {i c : Nat} {ai : List Int} (hi : i < a.length) (hai : nth [] a i = ai) (hbl : b.length ≤ 12) (hal : b.length ≤ ai.length) (hae : okRow ai = true) (hbe : ∀ r ∈ b, okRow r = true ∧ c < r.length) (k : KL) (x y : Nat × Bk) (h0 : Hp) (hh : h0.length = 3) :
    ∀ (q p : List (List Int)) (aq ap : List Int) (s : Int), p ++ q = b → ap ++ aq = ai → ap.length = p.length → s.natAbs ≤ p.length * 1000000000000000000 →
    ((s + dotI aq (colI c q)).natAbs ≤ b.length * 1000000000000000000 → k (.exit 4) [] [smB (s + dotI aq (colI c q)), x, y]) →
    lp (schismaref07_Product_l2 (CX Y) (lst wrow a) (lst wrow b) (I i) (I c) (.ptr 0 1 0 2)) [] h0 [I p.length] [smB s, x, y] k
  | [] => by
    intro p aq ap s hp ha hl hs hk
    simp at hp
    subst hp
    refine lp_in ?_
    simp (disch := first | omega | (simp <;> omega) | fail) [schismaref07_Product_l2]
    have e : dotI aq (colI c []) = 0 := by cases aq <;> simp [dotI, colI]
    rw [e, Int.add_zero] at hk
    exact hk hs
  | r :: q => by
    intro p aq ap s hp ha hl hs hk
    cases aq with
    | nil =>
      exfalso
      have e1 := congrArg List.length hp
      have e2 := congrArg List.length ha
      simp at e1 e2
      omega
    | cons v aq =>
    have hpl : p.length < b.length := by subst hp; simp
    have hr : nth [] b p.length = r := by subst hp; simp
    have hrb := hbe r (by subst hp; simp)
    have hv : nth 0 ai p.length = v := by subst ha; rw [← hl]; simp
    have hve : okEnt v = true := by
      simp only [okRow, List.all_eq_true] at hae
      exact hae v (by subst ha; simp)
    obtain ⟨w, hw⟩ : ∃ w, nth 0 r c = w := ⟨_, rfl⟩
    have hwe : okEnt w = true := by
      have := hrb.1
      simp only [okRow, List.all_eq_true] at this
      rw [← hw]; exact this _ (nth_mem hrb.2)
    have hv1 := okEnt_iff.1 hve
    have hw1 := okEnt_iff.1 hwe
    have hm := mul_ent hve hwe
    have hz2 := zb_mul hve hwe hs
    have eA : ∀ h : Hp, ixV h 1 (lst wrow a) (.d (.int .i64 (i : Int))) = some (.dptr (a.map wrow) i) := fun h => ix_lst wrow _ h rfl hi
    have eA1 : ∀ h : Hp, ld1 h (.dptr (a.map wrow) i) = some (lstm wc ai) := fun h => by
      have := ld_nth wrow [] a h hi
      rw [hai] at this
      exact this
    have eB : ∀ h : Hp, ixV h 1 (lst wrow b) (.d (.int .i64 (p.length : Int))) = some (.dptr (b.map wrow) p.length) := fun h => ix_lst wrow _ h rfl hpl
    have eB1 : ∀ h : Hp, ld1 h (.dptr (b.map wrow) p.length) = some (lstm wc r) := fun h => by
      have := ld_nth wrow [] b h hpl
      rw [hr] at this
      exact this
    have eA2 := fun h : Hp => ixm_nth wc wc_len ai h (k := .i64) (i := (p.length : Int)) (by omega) (by omega)
    have eA3 := fun h : Hp => ldm_nth wc wc_len 0 ai h (j := p.length) (by omega)
    have eB2 := fun h : Hp => ixm_nth wc wc_len r h (k := .i64) (i := (c : Int)) (by omega) (by omega)
    have eB3 := fun h : Hp => ldm_nth wc wc_len 0 r h (j := c) (by omega)
    simp only [hv, wc_map, Int.toNat_natCast] at eA2 eA3
    simp only [hw, wc_map, Int.toNat_natCast] at eB2 eB3
    have b1 := len9_small (big63 (M := 1) (by omega) (n := v.natAbs) (by omega))
    have b2 := len9_small (big63 (M := 1) (by omega) (n := w.natAbs) (by omega))
    have b3 := len9_small (big63 (M := p.length) (by omega) hs)
    have b4 := len9_small (big63 (M := 1) (by omega) (n := (v * w).natAbs) (by omega))
    have b5 := len9_small (big63 (M := p.length + 1) (by omega) (n := s.natAbs + (v * w).natAbs) (by omega))
    have hmu := mulW_ok (x := v) (y := w) (by omega) (by omega)
    have had := addW_ok (x := s) (y := v * w) (by omega) (by omega) (by omega)
    have hcol : colI c (r :: q) = w :: colI c q := by simp [colI, hw]
    have ih := prod_l2 hi hai hbl hal hae hbe k x y h0 hh q (p ++ [r]) aq (ap ++ [v]) (s + v * w) (by simpa using hp) (by simpa using ha) (by simp [hl]) (by simpa using hz2) (by
      rw [hcol] at hk
      simp only [dotI, ← Int.add_assoc] at hk
      exact hk)
    obtain ⟨t, ht⟩ : ∃ t, v * w = t := ⟨_, rfl⟩
    rw [ht] at hmu had ih
    obtain ⟨u, hu⟩ : ∃ u, s + t = u := ⟨_, rfl⟩
    rw [hu] at had ih
    refine lp_in ?_
    simp (disch := first | omega | (simp <;> omega) | fail) [schismaref07_Product_l2, smB, eA, eA1, eA2, eA3, eB, eB1, eB2, eB3]
    refine cd hmu ?_ (by simp [snaps, snap, intW, wh, nat9])
    simp (disch := first | omega | (simp <;> omega) | fail) []
    refine cd (args := [intW s, intW t]) had ?_ (by simp [snaps, snap, intW, wh, nat9])
    have hok := okV9 u.natAbs
    simp (disch := first | omega | (simp <;> omega) | fail) [intW, wh, hok, hh]
    simpa [smB] using ih
def p1A : Acc := ⟨1, 0, 2, .none⟩
def p2A : Acc := ⟨2, 0, 1, .none⟩
theorem lisR_W (z : Int) (h : Hp) : lisR 1 [D.bool false, D.pl (Value.slice none 0 0)] [(0, intW z)] h = some (wc z, h) := by
  simp [lisR, repl, toDs, toD, intW, wh, nat9, lst, wc, fillP, cellsV, len9]
theorem prod_l1 {a b : List (List Int)} {i : Nat} {ai : List Int} (hi : i < a.length) (hai : nth [] a i = ai) (hbl : b.length ≤ 12) (hal : b.length ≤ ai.length) (hae : okRow ai = true) {n : Nat} (hn : n ≤ 12) (hbe : ∀ r ∈ b, okRow r = true ∧ n ≤ r.length) (k : KL) (y : Nat × Bk) (hy : offB [0] y.2 = true) :
    ∀ (m c : Nat) (d : List Int), c + m = n → d.length = c →
    k (.exit 2) [p1A.v n ((d ++ rowFrom ai b m c).flatMap wc)] [(0, .none), p1A.b n ((d ++ rowFrom ai b m c).flatMap wc), y] →
    lp (schismaref07_Product_l1 (CX Y) (lst wrow a) (lst wrow b) (I n) (I i)) [0] [(0, .none), (0, .none), y] [p1A.v c (d.flatMap wc), I c] [(0, .none), p1A.b c (d.flatMap wc), y] k
  | 0, c, d, hc, hd, hk => by
    have : c = n := by omega
    subst this
    refine lp_in ?_
    simp (disch := first | omega | (simp <;> omega) | fail) [schismaref07_Product_l1]
    simpa [rowFrom] using hk
  | m + 1, c, d, hc, hd, hk => by
    have ih := prod_l1 hi hai hbl hal hae hn hbe k y hy m (c + 1) (d ++ [dotI ai (colI c b)]) (by omega) (by simp [hd]) (by simpa [rowFrom] using hk)
    have hfl := flat_len wc wc_len d
    have hoS : ∀ L c, offS [0] (p1A.v L c) = true := fun L c => offS_acc _ _ _ _ rfl
    have hoB : ∀ L c, offB [0] (p1A.b L c).2 = true := fun L c => offB_acc _ _ _ _ rfl
    refine lp_in ?_
    simp (disch := first | omega | (simp <;> omega) | fail) [schismaref07_Product_l1]
    refine cd (of_ok9 (z := 0) (by omega) (by omega)) ?_
    have h0 := okV9 0
    simp (disch := first | omega | (simp <;> omega) | fail) [intW, wh, h0]
    refine lo (prod_l2 (c := c) hi hai hbl hal hae (fun r hr => ⟨(hbe r hr).1, by have := (hbe r hr).2; omega⟩) _ _ _ _ rfl b [] ai [] 0 rfl rfl rfl (by simp) fun hbd => ?_)
    rw [Int.zero_add] at hbd ⊢
    generalize dotI ai (colI c b) = s at *
    have hli := lisR_W s
    simp only [intW, wh] at hli
    simp (disch := first | omega | (simp <;> omega) | fail) [smB, hli]
    refine acc_app p1A (k := 1) (cs := wc s) (by omega) (by rfl) (by simp [p1A, hfl, hd]) (by simp [p1A, wc]) rfl (by simp) (by omega) (by simp [p1A]) ?_
    simp (disch := first | omega | (simp <;> omega) | fail) [show p1A.s = 1 from rfl, clean, offSs, hoS, hoB, hy, show ∀ n cs a b, offB [0] (Bk.data n cs a b) = true from fun _ _ _ _ => rfl, offS_int, offH_cons, offH, offB_none, reset_cons, reset_end, notIn_nil, notIn_cons, beq_lit]
    simpa [p1A, Acc.v, Acc.b, offS, notIn, beq_lit] using ih
theorem prod_l0 {a b : List (List Int)} (hN : a.length ≤ 12) (hbl : b.length ≤ 12) {n : Nat} (hn : n ≤ 12) (hae : ∀ r ∈ a, okRow r = true ∧ b.length ≤ r.length) (hbe : ∀ r ∈ b, okRow r = true ∧ n ≤ r.length) (k : KL) :
    ∀ (q p : List (List Int)), p ++ q = a → k (.exit 0) [p2A.v a.length ((prodI a b n).map wrow)] [(0, .none), (0, .none), p2A.b a.length ((prodI a b n).map wrow)] →
    lp (schismaref07_Product_l0 (CX Y) (lst wrow a) (lst wrow b) (I n)) [0, 1] [(0, .none), (0, .none), (0, .none)] [p2A.v p.length ((prodI p b n).map wrow), I p.length] [(0, .none), (0, .none), p2A.b p.length ((prodI p b n).map wrow)] k
  | [] => by
    intro p hp hk
    simp at hp
    subst hp
    refine lp_in ?_
    simp (disch := first | omega | (simp <;> omega) | fail) [schismaref07_Product_l0]
    exact hk
  | r :: q => by
    intro p hp hk
    have hpl : p.length < a.length := by subst hp; simp
    have hr : nth [] a p.length = r := by subst hp; simp
    have hrb := hae r (by subst hp; simp)
    have ih := prod_l0 hN hbl hn hae hbe k q (p ++ [r]) (by simpa using hp) hk
    have hpp : (prodI (p ++ [r]) b n).map wrow = (prodI p b n).map wrow ++ [wrow (rowFrom r b n 0)] := by simp [prodI]
    rw [hpp] at ih
    have hpm : ((prodI p b n).map wrow).length = p.length := by simp [prodI]
    generalize (prodI p b n).map wrow = cells at *
    have hoS : ∀ L c, offS [0, 1] (p2A.v L c) = true := fun L c => offS_acc _ _ _ _ rfl
    have hoB : ∀ L c, offB [0, 1] (p2A.b L c).2 = true := fun L c => offB_acc _ _ _ _ rfl
    have hoB2 : ∀ L c, offB [0] (p2A.b L c).2 = true := fun L c => offB_acc _ _ _ _ rfl
    have hrl := rowFrom_len r b n 0
    refine lp_in ?_
    simp (disch := first | omega | (simp <;> omega) | fail) [schismaref07_Product_l0]
    refine lo (prod_l1 hpl hr hbl hrb.2 hrb.1 hn hbe _ _ (hoB2 _ _) n 0 [] (by omega) rfl ?_)
    simp only [List.nil_append]
    have fin : ∀ x : Nat × Bk, rh (apV false 2 1 24 (p2A.v p.length cells) (.d (.sl 1 [wrow (rowFrom r b n 0)])) [(0, .none), x, p2A.b p.length cells]) (fun v h => bnd (biI .add (I p.length) (.d (.int .i64 1))) fun v8 => lpK [0, 1] [(0, .none), (0, .none), (0, .none)] (fun l h => lp (schismaref07_Product_l0 (CX Y) (lst wrow a) (lst wrow b) (I n)) [0, 1] [(0, .none), (0, .none), (0, .none)] l h k) k .normal [v, v8] h) .mk := by
      intro x
      refine acc_app p2A (k := 1) (cs := [wrow (rowFrom r b n 0)]) (by omega) (by rfl) (by simp [p2A, hpm]) rfl rfl (by simp) (by omega) (by simp [p2A]) ?_
      simp (disch := first | omega | (simp <;> omega) | fail) [show p2A.s = 2 from rfl, clean, offSs, hoS, hoB, offS_int, offH_cons, offH, offB_none, offB, reset_cons, reset_end, notIn_nil, notIn_cons, beq_lit]
      simpa [Acc.v, Acc.b, p2A, offS, notIn, beq_lit] using ih
    have hw : wrow (rowFrom r b n 0) = .sl n ((rowFrom r b n 0).flatMap wc) := by unfold wrow; rw [hrl]
    have hfl := flat_len wc wc_len (rowFrom r b n 0)
    generalize rowFrom r b n 0 = rw0 at *
    by_cases hn0 : n = 0
    · have : rw0 = [] := List.eq_nil_of_length_eq_zero (by omega)
      subst this
      have hf := fin (0, .none)
      have hli : ∀ H : Hp, lisR 1 [D.pl (Value.slice none 0 0)] [(0, .d (.pl (.slice none 0 0)))] H = some ([wrow []], H) := fun H => by
        simp [lisR, repl, toDs, toD, wrow]
      have e1 : ∀ cs, p1A.v n cs = .d (.pl (.slice none 0 0)) := fun cs => by rw [hn0]; rfl
      have e2 : ∀ cs, p1A.b n cs = (0, .none) := fun cs => by rw [hn0]; rfl
      simp (disch := first | omega | (simp <;> omega) | fail) [e1, e2, hli]
      simp (disch := first | omega | (simp <;> omega) | fail) [] at hf
      exact hf
    · obtain ⟨n1, hn1⟩ : ∃ n1, n = n1 + 1 := ⟨n - 1, by omega⟩
      have hf := fin (1, .data 2 (rw0.flatMap wc) false true)
      rw [hw] at hf
      generalize rw0.flatMap wc = cs at *
      have hls := lisR_ref (h := [(0, .none), (1, .data 2 cs false false), p2A.b p.length cells]) (s := 1) (e := 1) (L := n) (n := 2) (cs := cs) (ex := false) (fr := false) rfl (by omega)
      have e1 : p1A.v n cs = .ref 1 1 0 n n cs.length := by rw [hn1]; rfl
      have e2 : p1A.b n cs = (1, .data 2 cs false false) := by rw [hn1]; rfl
      simp (disch := first | omega | (simp <;> omega) | fail) [e1, e2, hls]
      simp (disch := first | omega | (simp <;> omega) | fail) [] at hf
      exact hf
theorem product_okM {a b : List (List Int)} (hN : a.length ≤ 12) (hbl : b.length ≤ 12) {n : Nat} (hn : n ≤ 12) (hae : ∀ r ∈ a, okRow r = true ∧ b.length ≤ r.length) (hbe : ∀ r ∈ b, okRow r = true ∧ n ≤ r.length) : CP Y F.schismaref07_Product [lst wrow a, lst wrow b, I n] (lst wrow (prodI a b n)) := by
  refine schismaref07_Product_i ?_
  unfold schismaref07_Product
  refine prod_l0 hN hbl hn hae hbe _ a [] rfl ?_
  simp (disch := first | omega | (simp <;> omega) | fail) []
  have hl : (prodI a b n).length = a.length := by simp [prodI]
  have := acc_out p2A (h := [(0, .none), (0, .none), p2A.b a.length ((prodI a b n).map wrow)]) (L := a.length) (cells := (prodI a b n).map wrow) rfl (by simp [p2A, hl])
  unfold lst
  rw [hl]
  exact this
end Go.Vm
