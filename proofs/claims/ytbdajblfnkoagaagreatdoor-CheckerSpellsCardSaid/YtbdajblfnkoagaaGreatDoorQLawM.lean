/- CheckerMembers: the law, once known() is true. -/
import Derived.Test.YtbdajblfnkoagaaGreatDoorQLawA
set_option linter.unusedVariables false
set_option linter.unusedSimpArgs false
namespace Go.Vm
open Go Go.Am Go.Big
def axpy (κ : Int) (zs ys : List Int) : List Int := List.zipWith (fun z y => z + κ * y) zs ys
def sumGo : List Int → List (List Int) → List Int → List Int
  | κ :: ks, y :: m, zs => sumGo ks m (axpy κ zs y)
  | _, _, zs => zs
theorem axpy_len {κ : Int} {zs ys : List Int} (h : zs.length = ys.length) : (axpy κ zs ys).length = zs.length := by simp [axpy, h]
theorem axpy_nth {κ : Int} {zs ys : List Int} {c : Nat} (h : zs.length = ys.length) (hc : c < zs.length) : nth 0 (axpy κ zs ys) c = nth 0 zs c + κ * nth 0 ys c := by
  rw [nth_eq _ _ _ (by rw [axpy_len h]; exact hc), nth_eq _ _ _ hc, nth_eq _ _ _ (by omega)]
  simp [axpy]
def sH (b0 : Nat × Bk) (zs : List Int) : Hp := [b0, (1, .data 2 (zs.flatMap wc) false false)]
@[simp] theorem sH_len (b0 : Nat × Bk) (zs : List Int) : List.length (sH b0 zs) = 2 := id rfl
theorem zb_mul {a b s : Int} {M : Nat} (ha : okEnt a = true) (hb : okEnt b = true) (hs : s.natAbs ≤ M * 1000000000000000000) : (s + a * b).natAbs ≤ (M + 1) * 1000000000000000000 := by
  have := mul_ent ha hb
  omega
theorem big63 {n : Nat} {M : Nat} (hM : M ≤ 1000) (h : n ≤ M * 1000000000000000000) : n < 10 ^ 63 := by
  have h1 : M * 1000000000000000000 ≤ 1000 * 1000000000000000000 := Nat.mul_le_mul_right _ hM
  have h2 : 1000 * 1000000000000000000 < 10 ^ 63 := by decide
  omega
theorem len9_small {n : Nat} (h : n < 10 ^ 63) : len9 n ≤ 7 := len9_le (by rw [Z_pow]; exact h)
theorem axpy_bound {κ : Int} (hκ : okEnt κ = true) {M : Nat} : ∀ (zs ys : List Int), okRow ys = true → (∀ z ∈ zs, z.natAbs ≤ M * 1000000000000000000) → ∀ z ∈ axpy κ zs ys, z.natAbs ≤ (M + 1) * 1000000000000000000
  | [], _, _, _ => fun z hz => by simp [axpy] at hz
  | _ :: _, [], _, _ => fun z hz => by simp [axpy] at hz
  | x :: zs, y :: ys, hy, hb => fun z hz => by
    simp only [okRow, List.all_cons, Bool.and_eq_true] at hy
    simp only [axpy, List.zipWith_cons_cons, List.mem_cons] at hz
    rcases hz with rfl | hz
    · exact zb_mul hκ hy.1 (hb x (by simp))
    · exact axpy_bound hκ zs ys hy.2 (fun w hw => hb w (by simp [hw])) z hz
theorem sumGo_nth {c : Nat} : ∀ (m : List (List Int)) (ks zs : List Int), (∀ r ∈ m, r.length = zs.length) → ks.length = m.length → c < zs.length → nth 0 (sumGo ks m zs) c = nth 0 zs c + dotI ks (colI c m)
  | [], ks, zs, _, hk, _ => by
    have : ks = [] := List.eq_nil_of_length_eq_zero (by simpa using hk)
    subst this
    simp [sumGo, dotI]
  | y :: m, [], zs, _, hk, _ => by simp at hk
  | y :: m, κ :: ks, zs, hm, hk, hc => by
    have hy := hm y (by simp)
    have hal := axpy_len (κ := κ) hy.symm
    have := sumGo_nth (c := c) m ks (axpy κ zs y) (fun r hr => by rw [hal]; exact hm r (by simp [hr])) (by simpa using hk) (by rw [hal]; exact hc)
    simp only [sumGo, this, axpy_nth hy.symm hc, colI, List.map_cons, dotI]
    omega
theorem sumGo_len : ∀ (m : List (List Int)) (ks zs : List Int), (∀ r ∈ m, r.length = zs.length) → (sumGo ks m zs).length = zs.length
  | [], ks, zs, _ => by cases ks <;> rfl
  | y :: m, [], zs, _ => rfl
  | y :: m, κ :: ks, zs, hm => by
    have hal := axpy_len (κ := κ) (hm y (by simp)).symm
    rw [sumGo, sumGo_len m ks _ (fun r hr => by rw [hal]; exact hm r (by simp [hr])), hal]
theorem ext_nth {x y : List Int} (hl : x.length = y.length) (h : ∀ c, c < x.length → nth 0 x c = nth 0 y c) : x = y := by
  refine List.ext_getElem hl fun i h1 h2 => ?_
  have := h i h1
  rw [nth_eq _ _ _ h1, nth_eq _ _ _ h2] at this
  exact this
end Go.Vm
