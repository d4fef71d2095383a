/- ref07: ToRow, FromRow; slices.Equal of rows. -/
import Derived.Test.YtbdajblfnkoagaaGreatDoorQRefChk
import Derived.Test.YtbdajblfnkoagaaGreatDoorQRefX
import Derived.Test.YtbdajblfnkoagaaGreatDoorQT
set_option linter.unusedVariables false
set_option linter.unusedSimpArgs false
namespace Go.Vm
open Go Go.Am Go.Big
def wc (z : Int) : List D := [.bool (decide (z < 0)), .sl (len9 z.natAbs) ((dig Z z.natAbs).map i9)]
theorem wc_len (z : Int) : (wc z).length = 2 := rfl
theorem wc_map (z : Int) : V.agg ((wc z).map .d) = intW z := rfl
theorem big9 {n : Nat} (h : n < 10 ^ 63) : len9 n < 100000000 ∧ ndg n < 900000000 := by
  have e : (10 : Nat) ^ 63 = Z ^ 7 := by rw [Z_pow]
  constructor
  · have := len9_le (n := n) (k := 7) (by omega); omega
  · have := ndg_le (n := n) (d := 63) h (by decide); omega
section
variable {h : Hp} {a : V} {r : List Int}
def trA (h : Hp) : Acc := ⟨h.length, 0, 2, .none⟩
theorem toRow_loop (hN : r.length < 1000000000) (hlen : lenV a = some (I r.length)) (hb : ∀ n ∈ r, -9223372036854775808 < n ∧ n < 9223372036854775808)
    (hread : ∀ (x : Nat × Bk) (i : Nat), i < r.length → ∃ p, ixV (h ++ [x]) 1 a (I i) = some p ∧ ld1 (h ++ [x]) p = some (I (nth 0 r i))) (k : KL) (h0 : Hp) (hh : h0.length = h.length + 1) :
    ∀ (q p : List Int), p ++ q = r → k (.exit 0) [(trA h).v r.length (r.flatMap wc)] (h ++ [(trA h).b r.length (r.flatMap wc)]) →
    lp (schismaref07_ToRow_l0 (CX Y) h.length a) [] h0 [(trA h).v p.length (p.flatMap wc), I p.length] (h ++ [(trA h).b p.length (p.flatMap wc)]) k
  | [] => by
    intro p hp hk
    simp at hp
    subst hp
    refine lp_in ?_
    simp (disch := first | omega | (simp <;> omega) | fail) [schismaref07_ToRow_l0, hlen]
    exact hk
  | x :: q => by
    intro p hp hk
    have hpl : p.length < r.length := by subst hp; simp
    have hx : nth 0 r p.length = x := by subst hp; simp
    have hxb := hb x (by subst hp; simp)
    refine lp_in ?_
    obtain ⟨pt, e1, e2⟩ := hread ((trA h).b p.length (p.flatMap wc)) p.length hpl
    rw [hx] at e2
    simp (disch := first | omega | (simp <;> omega) | fail) [schismaref07_ToRow_l0, hlen, e1, e2]
    refine cd (of_ok9 hxb.1 hxb.2) ?_
    simp (disch := first | omega | (simp <;> omega) | fail) []
    have hli : lisR 1 [D.bool false, D.pl (Value.slice none 0 0)] [(0, intW x)] (h ++ [(trA h).b p.length (p.flatMap wc)]) = some (wc x, h ++ [(trA h).b p.length (p.flatMap wc)]) := by
      simp [lisR, repl, toDs, toD, intW, wh, nat9, lst, wc, fillP, cellsV, len9]
    rw [hli]
    simp (disch := first | omega | (simp <;> omega) | fail) []
    refine acc_app (trA h) (k := 1) (cs := wc x) (by omega) (by simp [trA]) (by simp [trA, wc_len, flat_len wc wc_len]) (by simp [trA, wc]) rfl (by simp) (by omega) (by simp [trA]) ?_
    simp (disch := first | omega | (simp <;> omega) | fail) [hh]
    have := toRow_loop hN hlen hb hread k h0 hh q (p ++ [x]) (by simpa using hp) hk
    simpa [trA] using this
theorem toRow_in (hu : (h.all fun x => underB h.length x.2) = true) (hN : r.length < 1000000000) (hlen : lenV a = some (I r.length)) (hb : ∀ n ∈ r, -9223372036854775808 < n ∧ n < 9223372036854775808)
    (hread : ∀ (x : Nat × Bk) (i : Nat), i < r.length → ∃ p, ixV (h ++ [x]) 1 a (I i) = some p ∧ ld1 (h ++ [x]) p = some (I (nth 0 r i))) (hne : r ≠ []) :
    CI Y F.schismaref07_ToRow [a] h (.new 2 (r.flatMap wc) false r.length r.length) h := by
  refine schismaref07_ToRow_i ?_
  unfold schismaref07_ToRow
  refine toRow_loop hN hlen hb hread _ _ (by simp) r [] rfl ?_
  obtain ⟨n, hn⟩ : ∃ n, r.length = n + 1 := ⟨r.length - 1, by have := List.length_pos_iff.2 hne; omega⟩
  simp (disch := first | omega | (simp <;> omega) | fail) []
  refine ⟨by simp, ?_, .inr (.inr (.inl ⟨h.length, 1, n + 1, n + 1, 2, r.flatMap wc, false, ?_, Nat.le_refl _, ?_, ?_⟩))⟩
  · simp only [List.all_append, hu, Bool.true_and]
    try simp [hn, underB]
  · simp [hn, trA]
  · simp [hn, hget, trA]
  · simp [hn]
theorem toRow_nil (hu : (h.all fun x => underB h.length x.2) = true) (hlen : lenV a = some (I 0)) : CI Y F.schismaref07_ToRow [a] h (.d (.sl 0 [])) h := by
  refine schismaref07_ToRow_i ?_
  unfold schismaref07_ToRow
  refine lp_in ?_
  simp (disch := first | omega | (simp <;> omega) | fail) [schismaref07_ToRow_l0, hlen]
  refine ⟨by simp, ?_, .inr (.inl ⟨rfl, [], h ++ [(0, .none)], by simp [toD]⟩)⟩
  simp only [List.all_append, hu, Bool.true_and]
  try simp [underB]
end
def frV (L : Nat) : V := match L with
  | 0 => .ref 0 1 0 0 0 0
  | _ => .ref 1 1 0 L L L
def frH (L : Nat) (cells : List D) : Hp := match L with
  | 0 => [(1, .data 1 [] true false), (0, .none)]
  | _ => [(1, .data 1 [] true false), (1, .data 1 cells false false)]
theorem fr_app {L : Nat} {cells : List D} {x : D} {q : V → Hp → Prop} {u : PU q} (hc : cells.length = L) (hL : L < 1000000000) (hq : q (frV (L + 1)) (frH (L + 1) (cells ++ [x]))) : rh (apV false 1 1 8 (frV L) (.d (.sl 1 [x])) (frH L cells)) q u := by
  unfold rh apV
  simp only [cellsOf]
  rw [if_pos (by simp)]
  unfold apC
  rw [if_neg (by omega)]
  cases L with
  | zero =>
    have : cells = [] := List.eq_nil_of_length_eq_zero hc
    subst this
    simp [frV, frH, hget, new]
    simpa [frV, frH] using hq
  | succ L =>
    simp [frV, frH, hget, hc]
    rw [if_neg (by omega)]
    refine ⟨by omega, ?_⟩
    simp only [frV, frH] at hq
    rw [List.take_of_length_le (by omega)]
    simpa [hset] using hq
theorem fromRow_loop (zs : List Int) (hN : zs.length < 1000000) (hb : ∀ z ∈ zs, z.natAbs < 10 ^ 63) (k : KL) (h0 : Hp) (hh : h0.length = 2) : ∀ (q p : List Int), p ++ q = zs →
    (okRow q = true → k (.exit 0) [frV zs.length] (frH zs.length (zs.map di))) → (okRow q = false → ∀ h, k .ret [.d (.pl (.slice none 0 0)), B false] h) →
    lp (schismaref07_FromRow_l0 (CX Y) (lstm wc zs)) [] h0 [frV p.length, I p.length] (frH p.length (p.map di)) k
  | [] => by
    intro p hp h1 h2
    simp at hp
    subst hp
    refine lp_in ?_
    simp (disch := first | omega | (simp <;> omega) | fail) [schismaref07_FromRow_l0]
    exact h1 rfl
  | z :: q => by
    intro p hp h1 h2
    have hpl : p.length < zs.length := by subst hp; simp
    have hz : nth 0 zs p.length = z := by subst hp; simp
    have hzb := hb z (by subst hp; simp)
    have hbg := big9 hzb
    have e1 := ixm_nth wc wc_len zs (frH p.length (p.map di)) (k := .i64) (i := (p.length : Int)) (by omega) (by omega)
    have e2 := ldm_nth wc wc_len 0 zs (frH p.length (p.map di)) hpl
    rw [hz, wc_map] at e2
    rw [Int.toNat_natCast] at e1
    refine lp_in ?_
    simp (disch := first | omega | (simp <;> omega) | fail) [schismaref07_FromRow_l0, e1, e2]
    refine cd (from_ok hbg.1) ?_ (by simp [snaps, snap, intW, wh, nat9])
    simp (disch := first | omega | (simp <;> omega) | fail) []
    refine cd (sml_ok hbg.2) ?_
    unfold smallV
    by_cases hs : -9223372036854775808 ≤ z ∧ z ≤ 9223372036854775807
    · rw [if_pos hs]
      by_cases h3 : 1000000000 < z
      · simp (disch := first | omega | (simp <;> omega) | fail) [h3]
        exact h2 (by simp [okRow, okEnt]; omega) _
      · by_cases h4 : z < -1000000000
        · simp (disch := first | omega | (simp <;> omega) | fail) [h3, h4]
          exact h2 (by simp [okRow, okEnt]; omega) _
        · simp (disch := first | omega | (simp <;> omega) | fail) [h3, h4]
          have hli : lisR 1 [D.int IntKind.i64 0] [(0, I z)] (frH p.length (p.map di)) = some ([di z], frH p.length (p.map di)) := by
            simp [lisR, repl, toDs, toD, di]
          rw [hli]
          simp (disch := first | omega | (simp <;> omega) | fail) []
          refine fr_app (by simp) (by omega) ?_
          have hfl : (frH (p.length + 1) (p.map di ++ [di z])).length = 2 := rfl
          have := fromRow_loop zs hN hb k h0 hh q (p ++ [z]) (by simpa using hp) (fun g => h1 ?_) (fun g => h2 ?_)
          · simp (disch := first | omega | (simp <;> omega) | fail) [hh, hfl]
            simpa using this
          · simp [okRow, okEnt] at g ⊢; exact ⟨⟨by omega, by omega⟩, g⟩
          · simp only [okRow, List.all_cons, Bool.and_eq_false_iff] at g ⊢; exact .inr g
    · rw [if_neg hs]
      simp (disch := first | omega | (simp <;> omega) | fail) []
      exact h2 (by simp [okRow, okEnt]; omega) _
theorem fromRow_ok {zs : List Int} (hN : zs.length < 1000000) (hb : ∀ z ∈ zs, z.natAbs < 10 ^ 63) : CP Y F.schismaref07_FromRow [lstm wc zs] (.tup [if okRow zs = true then lst di zs else .d (.sl 0 []), B (okRow zs)]) := by
  refine schismaref07_FromRow_i ?_
  simp (disch := first | omega | (simp <;> omega) | fail) [schismaref07_FromRow]
  have hli : lisR 0 [D.int IntKind.i64 0] [] [(0, Bk.none), (0, Bk.none)] = some ([], [(0, Bk.none), (0, Bk.none)]) := by
    simp [lisR, repl, toDs]
  rw [hli]
  simp (disch := first | omega | (simp <;> omega) | fail) []
  refine lo (fromRow_loop zs hN hb _ _ rfl zs [] rfl (fun g => ?_) (fun g h => ?_))
  · rw [g]
    simp (disch := first | omega | (simp <;> omega) | fail) []
    cases hL : zs.length with
    | zero =>
      have : zs = [] := List.eq_nil_of_length_eq_zero hL
      subst this
      exact ⟨[(1, .data 1 [] true true), (0, .none)], by simp [snap, snaps, frV, frH, toD, hget, lst]⟩
    | succ n =>
      refine ⟨frH (n + 1) (zs.map di) |>.set 1 (1, .data 1 (zs.map di) false true), ?_⟩
      simp [snap, snaps, frV, frH, toD, hget, hL, lst]
      rw [List.take_of_length_le (by simp [hL])]
  · rw [g]
    simp (disch := first | omega | (simp <;> omega) | fail) []
    exact ⟨h, by simp [snap, snaps]⟩
theorem eq_loop (k : KL) : ∀ (q q' p p' : List Int), p.length = p'.length → q.length = q'.length → (p ++ q).length < 1000000000 → (q = q' → k (.exit 0) [] []) → (q ≠ q' → k .ret [B false] []) →
    lp (slices_Equal_api_Row_int_l0 (CX Y) (lst di (p ++ q)) (lst di (p' ++ q')) (I (p ++ q).length)) [] [] [I p.length] [] k
  | [] => by
    intro q' p p' hp hq hN h0 h1
    have : q' = [] := List.eq_nil_of_length_eq_zero hq.symm
    subst this
    refine lp_in ?_
    simp (disch := first | omega | (simp <;> omega) | fail) [slices_Equal_api_Row_int_l0]
    exact h0 rfl
  | x :: q => by
    intro q' p p' hp hq hN h0 h1
    cases q' with
    | nil => simp at hq
    | cons y q' =>
    simp at hq hN
    refine lp_in ?_
    have hy : nth 0 (p' ++ y :: q') p.length = y := by rw [hp]; simp
    have e1 : ixV [] 1 (lst di (p' ++ y :: q')) (.d (.int .i64 (p.length : Int))) = some (.dptr ((p' ++ y :: q').map di) p.length) := ix_lst di _ [] rfl (by simp; omega)
    have e2 := ld_row (p' ++ y :: q') [] (j := p.length) (by simp; omega)
    rw [hy] at e2
    simp (disch := first | omega | (simp <;> omega) | fail) [slices_Equal_api_Row_int_l0, e1, e2]
    by_cases h : x = y
    · subst h
      simp (disch := first | omega | (simp <;> omega) | fail) []
      have := eq_loop k q q' (p ++ [x]) (p' ++ [x]) (by simp [hp]) hq (by simp; omega) (fun g => h0 (by rw [g])) (fun g => h1 (by simpa using g))
      simpa using this
    · simp (disch := first | omega | (simp <;> omega) | fail) [h]
      exact h1 (by simp [h])
theorem equalRow_ok {x y : List Int} (hx : x.length < 1000000000) (hy : y.length < 1000000000) : CP Y F.slices_Equal_api_Row_int [lst di x, lst di y] (B (decide (x = y))) := by
  refine slices_Equal_api_Row_int_i ?_
  by_cases h : x.length = y.length
  · simp (disch := first | omega | (simp <;> omega) | fail) [slices_Equal_api_Row_int, h]
    rw [← h]
    refine lo (eq_loop _ x y [] [] rfl h (by simpa using hx) (fun g => ?_) (fun g => ?_))
    · simp (disch := first | omega | (simp <;> omega) | fail) []
      exact out_b (by simp [g])
    · simp (disch := first | omega | (simp <;> omega) | fail) []
      exact out_b (by simp [g])
  · simp (disch := first | omega | (simp <;> omega) | fail) [slices_Equal_api_Row_int, h]
    exact out_b (by simp; intro e; exact h (by rw [e]))
end Go.Vm
