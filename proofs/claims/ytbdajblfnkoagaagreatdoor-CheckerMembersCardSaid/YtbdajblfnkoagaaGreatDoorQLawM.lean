/- CheckerMembers: the law, once known() is true. -/
import Derived.Test.YtbdajblfnkoagaaGreatDoorQLawA
set_option linter.unusedVariables false
set_option linter.unusedSimpArgs false
namespace Go.Vm
open Go Go.Am Go.Big
def axpy (κ : Int) (zs ys : List Int) : List Int := List.zipWith (fun z y => z + κ * y) zs ys
def sumGo : List Int → List (List Int) → List Int → List Int
  | κ :: ks, y :: m, zs => sumGo ks m (axpy κ zs y)
  | _, _, zs => zs
theorem axpy_len {κ : Int} {zs ys : List Int} (h : zs.length = ys.length) : (axpy κ zs ys).length = zs.length := by simp [axpy, h]
theorem axpy_nth {κ : Int} {zs ys : List Int} {c : Nat} (h : zs.length = ys.length) (hc : c < zs.length) : nth 0 (axpy κ zs ys) c = nth 0 zs c + κ * nth 0 ys c := by
  rw [nth_eq _ _ _ (by rw [axpy_len h]; exact hc), nth_eq _ _ _ hc, nth_eq _ _ _ (by omega)]
  simp [axpy]
def sH (b0 : Nat × Bk) (zs : List Int) : Hp := [b0, (1, .data 2 (zs.flatMap wc) false false)]
@[simp] theorem sH_len (b0 : Nat × Bk) (zs : List Int) : List.length (sH b0 zs) = 2 := id rfl
theorem zb_mul {a b s : Int} {M : Nat} (ha : okEnt a = true) (hb : okEnt b = true) (hs : s.natAbs ≤ M * 1000000000000000000) : (s + a * b).natAbs ≤ (M + 1) * 1000000000000000000 := by
  have := mul_ent ha hb
  omega
theorem big63 {n : Nat} {M : Nat} (hM : M ≤ 1000) (h : n ≤ M * 1000000000000000000) : n < 10 ^ 63 := by
  have h1 : M * 1000000000000000000 ≤ 1000 * 1000000000000000000 := Nat.mul_le_mul_right _ hM
  have h2 : 1000 * 1000000000000000000 < 10 ^ 63 := by decide
  omega
theorem len9_small {n : Nat} (h : n < 10 ^ 63) : len9 n ≤ 7 := len9_le (by rw [Z_pow]; exact h)
theorem mem_in {b0 : Nat × Bk} {ks : List Int} {i : Nat} {κ : Int} (hi : i < ks.length) (hκ : nth 0 ks i = κ) (hκe : okEnt κ = true) {y : List Int} (hy : okRow y = true) (hyl : y.length ≤ 14) {M : Nat} (hM : M ≤ 900) {n N2 : Nat} (hn : n = y.length) (hN2 : N2 = n * 2) (k : KL) (h0 : Hp) (hh : h0.length = 2) :
    ∀ (q p rest done : List Int), p ++ q = y → rest.length = q.length → done.length = p.length → (∀ z ∈ rest, z.natAbs ≤ M * 1000000000000000000) →
    k (.exit 2) [] (sH b0 (done ++ axpy κ rest q)) →
    lp (schismalaw55_CheckerMembers_l1 (CX Y) (lst di ks) (.ref 1 1 0 n n N2) (I i) (.d (row y)) (I y.length)) [] h0 [I p.length] (sH b0 (done ++ rest)) k
  | [] => by
    intro p rest done hp hr hd hb hk
    have : rest = [] := List.eq_nil_of_length_eq_zero (by simpa using hr)
    subst this
    simp at hp
    subst hp
    refine lp_in ?_
    simp (disch := first | omega | (simp <;> omega) | fail) [schismalaw55_CheckerMembers_l1]
    simpa [axpy] using hk
  | v :: q => by
    intro p rest done hp hr hd hb hk
    cases rest with
    | nil => simp at hr
    | cons z rest =>
    have hpl : p.length < y.length := by subst hp; simp
    have hv : nth 0 y p.length = v := by subst hp; simp
    have hve : okEnt v = true := by
      simp only [okRow, List.all_eq_true] at hy
      exact hy v (by subst hp; simp)
    have hv1 := okEnt_iff.1 hve
    have hκ1 := okEnt_iff.1 hκe
    have hzM := hb z (by simp)
    have hm := mul_ent hκe hve
    have hz2 := zb_mul hκe hve hzM
    have hL : N2 = ((done ++ z :: rest).flatMap wc).length := by
      rw [flat_len wc wc_len, hN2, hn, ← hp]; simp at hr ⊢; omega
    have e1 := ldA_wc b0 (done ++ z :: rest) false false hL (c := p.length) (by simp; omega)
    have hz : nth 0 (done ++ z :: rest) p.length = z := by rw [← hd]; simp
    rw [hz] at e1
    have e2 := st_wc b0 (done ++ z :: rest) (z + κ * v) false hL (c := p.length) (by simp; omega)
    have hset : (done ++ z :: rest).set p.length (z + κ * v) = (done ++ [z + κ * v]) ++ rest := by
      rw [← hd, List.set_append_right _ _ (Nat.le_refl _)]; simp
    rw [hset] at e2
    have hNL : (N2 = (List.flatMap wc (done ++ z :: rest)).length) = True := eq_true hL
    refine lp_in ?_
    have e3 : ixV (sH b0 (done ++ z :: rest)) 2 (.ref 1 1 0 n n N2) (.d (.int .i64 (p.length : Int))) = some (.ptr 1 1 (p.length * 2) N2) := by
      simp only [ixV, sH, hget, List.getElem?_cons_succ, List.getElem?_cons_zero, if_true]
      rw [if_pos ⟨hL, by omega, by omega⟩]
      simp
    have e1' : ldA (sH b0 (done ++ z :: rest)) 2 (.ptr 1 1 (p.length * 2) N2) = some (intW z) := e1
    have e2' : st (sH b0 (done ++ z :: rest)) 2 (.ptr 1 1 (p.length * 2) N2) (intW (z + κ * v)) = some (sH b0 (done ++ [z + κ * v] ++ rest)) := e2
    generalize hH : sH b0 (done ++ z :: rest) = H at *
    simp (disch := first | omega | (simp <;> omega) | fail) [schismalaw55_CheckerMembers_l1, hv, e3, e1', hκ]
    refine cd (of_ok9 (z := κ) (by omega) (by omega)) ?_
    simp (disch := first | omega | (simp <;> omega) | fail) []
    refine cd (of_ok9 (z := v) (by omega) (by omega)) ?_
    simp (disch := first | omega | (simp <;> omega) | fail) []
    have b1 := len9_small (big63 (M := 1) (by omega) (n := κ.natAbs) (by omega))
    have b2 := len9_small (big63 (M := 1) (by omega) (n := v.natAbs) (by omega))
    have b3 := len9_small (big63 (M := M) (by omega) hzM)
    have b4 := len9_small (big63 (M := 1) (by omega) (n := (κ * v).natAbs) (by omega))
    have b5 := len9_small (big63 (M := M + 1) (by omega) (n := z.natAbs + (κ * v).natAbs) (by omega))
    refine cd (mulW_ok (x := κ) (y := v) (by omega) (by omega)) ?_ (by simp [snaps, snap, intW, wh, nat9])
    simp (disch := first | omega | (simp <;> omega) | fail) []
    refine cd (addW_ok (x := z) (y := κ * v) (by omega) (by omega) (by omega)) ?_ (by simp [snaps, snap, intW, wh, nat9])
    simp (disch := first | omega | (simp <;> omega) | fail) [e3, e2']
    have := mem_in hi hκ hκe hy hyl hM hn hN2 k h0 hh q (p ++ [v]) rest (done ++ [z + κ * v]) (by simpa using hp) (by simpa using hr) (by simp [hd]) (fun w hw => hb w (by simp [hw])) (by simpa [axpy] using hk)
    simpa using this
theorem axpy_bound {κ : Int} (hκ : okEnt κ = true) {M : Nat} : ∀ (zs ys : List Int), okRow ys = true → (∀ z ∈ zs, z.natAbs ≤ M * 1000000000000000000) → ∀ z ∈ axpy κ zs ys, z.natAbs ≤ (M + 1) * 1000000000000000000
  | [], _, _, _ => fun z hz => by simp [axpy] at hz
  | _ :: _, [], _, _ => fun z hz => by simp [axpy] at hz
  | x :: zs, y :: ys, hy, hb => fun z hz => by
    simp only [okRow, List.all_cons, Bool.and_eq_true] at hy
    simp only [axpy, List.zipWith_cons_cons, List.mem_cons] at hz
    rcases hz with rfl | hz
    · exact zb_mul hκ hy.1 (hb x (by simp))
    · exact axpy_bound hκ zs ys hy.2 (fun w hw => hb w (by simp [hw])) z hz
theorem mem_out {b0 : Nat × Bk} {ks : List Int} (hks : okRow ks = true) {m : List (List Int)} {n N2 : Nat} (hm : ∀ r ∈ m, r.length = n ∧ okRow r = true) (hn14 : n ≤ 14) (hN2 : N2 = n * 2) (hml : m.length ≤ 14) (k : KL) (h0 : Hp) (hh : h0.length = 2) :
    ∀ (q a : List (List Int)) (kr : List Int), a ++ q = m → (ks.drop a.length = kr) → kr.length = q.length → ∀ zs : List Int, zs.length = n → (∀ z ∈ zs, z.natAbs ≤ a.length * 1000000000000000000) →
    ((∀ z ∈ sumGo kr q zs, z.natAbs ≤ m.length * 1000000000000000000) → k (.exit 0) [] (sH b0 (sumGo kr q zs))) →
    lp (schismalaw55_CheckerMembers_l0 (CX Y) (lst di ks) (.ref 1 1 0 n n N2) (mat m) (I m.length)) [] h0 [I a.length] (sH b0 zs) k
  | [] => by
    intro a kr ha hkr hl zs hz hb hk
    simp at ha
    subst ha
    refine lp_in ?_
    simp (disch := first | omega | (simp <;> omega) | fail) [schismalaw55_CheckerMembers_l0]
    have : kr = [] := List.eq_nil_of_length_eq_zero (by simpa using hl)
    subst this
    exact hk hb
  | y :: q => by
    intro a kr ha hkr hl zs hz hb hk
    cases kr with
    | nil => simp at hl
    | cons κ kr =>
    have hal : a.length < m.length := by subst ha; simp
    have hy : nth [] m a.length = y := by subst ha; simp
    have hkl : a.length < ks.length := by
      rcases Nat.lt_or_ge a.length ks.length with h | h
      · exact h
      · rw [List.drop_eq_nil_of_le h] at hkr; cases hkr
    have hκ : nth 0 ks a.length = κ := by
      rw [nth_eq _ _ _ hkl]
      rw [List.drop_eq_getElem_cons hkl] at hkr
      injection hkr
    have hkr2 : ks.drop (a.length + 1) = kr := by
      rw [List.drop_eq_getElem_cons hkl] at hkr
      injection hkr
    have hκe : okEnt κ = true := by
      simp only [okRow, List.all_eq_true] at hks
      rw [← hκ, nth_eq _ _ _ hkl]
      exact hks _ (List.getElem_mem hkl)
    have hyr := hm y (by subst ha; simp)
    refine lp_in ?_
    simp (disch := first | omega | (simp <;> omega) | fail) [schismalaw55_CheckerMembers_l0, hy]
    refine lo (mem_in (b0 := b0) hkl hκ hκe hyr.2 (by omega) (M := a.length) (by omega) hyr.1.symm hN2 _ _ (by simp) y [] zs [] rfl (by omega) rfl hb ?_)
    simp (disch := first | omega | (simp <;> omega) | fail) [hh]
    have := mem_out hks hm hn14 hN2 hml k h0 hh q (a ++ [y]) kr (by simpa using ha) (by simpa using hkr2) (by simpa using hl) (axpy κ zs y) (by rw [axpy_len (by omega)]; exact hz) (by simpa using axpy_bound hκe zs y hyr.2 hb) (by simpa [sumGo] using hk)
    simpa using this
theorem sumGo_nth {c : Nat} : ∀ (m : List (List Int)) (ks zs : List Int), (∀ r ∈ m, r.length = zs.length) → ks.length = m.length → c < zs.length → nth 0 (sumGo ks m zs) c = nth 0 zs c + dotI ks (colI c m)
  | [], ks, zs, _, hk, _ => by
    have : ks = [] := List.eq_nil_of_length_eq_zero (by simpa using hk)
    subst this
    simp [sumGo, dotI]
  | y :: m, [], zs, _, hk, _ => by simp at hk
  | y :: m, κ :: ks, zs, hm, hk, hc => by
    have hy := hm y (by simp)
    have hal := axpy_len (κ := κ) hy.symm
    have := sumGo_nth (c := c) m ks (axpy κ zs y) (fun r hr => by rw [hal]; exact hm r (by simp [hr])) (by simpa using hk) (by rw [hal]; exact hc)
    simp only [sumGo, this, axpy_nth hy.symm hc, colI, List.map_cons, dotI]
    omega
theorem sumGo_len : ∀ (m : List (List Int)) (ks zs : List Int), (∀ r ∈ m, r.length = zs.length) → (sumGo ks m zs).length = zs.length
  | [], ks, zs, _ => by cases ks <;> rfl
  | y :: m, [], zs, _ => rfl
  | y :: m, κ :: ks, zs, hm => by
    have hal := axpy_len (κ := κ) (hm y (by simp)).symm
    rw [sumGo, sumGo_len m ks _ (fun r hr => by rw [hal]; exact hm r (by simp [hr])), hal]
theorem ext_nth {x y : List Int} (hl : x.length = y.length) (h : ∀ c, c < x.length → nth 0 x c = nth 0 y c) : x = y := by
  refine List.ext_getElem hl fun i h1 h2 => ?_
  have := h i h1
  rw [nth_eq _ _ _ h1, nth_eq _ _ _ h2] at this
  exact this
theorem sum_mem {m : List (List Int)} {ks x : List Int} (hm : ∀ r ∈ m, r.length = x.length) (hk : ks.length = m.length) : (sumGo ks m (List.replicate x.length 0) = x) ↔ (x.zipIdx.all fun e => decide (dotI ks (colI e.2 m) = e.1)) = true := by
  have hl : (sumGo ks m (List.replicate x.length 0)).length = x.length := by rw [sumGo_len _ _ _ (by simpa using hm)]; simp
  have hn : ∀ c, c < x.length → nth 0 (sumGo ks m (List.replicate x.length 0)) c = dotI ks (colI c m) := fun c hc => by
    rw [sumGo_nth m ks _ (by simpa using hm) hk (by simpa using hc), nth_eq _ _ _ (by simpa using hc)]
    simp
  simp only [List.all_eq_true, decide_eq_true_eq]
  constructor
  · rintro h ⟨e, c⟩ hc
    obtain ⟨_, hc1, hc2⟩ := List.mem_zipIdx hc
    simp at hc1 hc2
    rw [← hn c hc1, h, nth_eq _ _ _ hc1, hc2]
  · intro h
    refine ext_nth hl fun c hc => ?_
    rw [hl] at hc
    rw [hn c hc, nth_eq _ _ _ hc]
    exact h (x[c], c) (by rw [List.mem_zipIdx_iff_getElem?]; simp [hc])
end Go.Vm
