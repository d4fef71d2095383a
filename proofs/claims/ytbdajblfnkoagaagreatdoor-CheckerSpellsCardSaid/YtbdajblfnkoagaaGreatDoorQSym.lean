/- Symbols: slices of structs of a name and a row; Concat, Grow, Clone, ContainsFunc of them. -/
import Derived.Test.YtbdajblfnkoagaaGreatDoorQCkMat
import Derived.Test.YtbdajblfnkoagaaGreatDoorQT
import Derived.Test.YtbdajblfnkoagaaGreatDoorQWalk
set_option linter.unusedVariables false
set_option linter.unusedSimpArgs false
namespace Go.Vm
open Go Go.Am
abbrev Sym := List UInt8 × List Int
def sc (s : Sym) : List D := [.str s.1, row s.2]
theorem sc_len (s : Sym) : (sc s).length = 2 := rfl
abbrev syms (l : List Sym) : V := lstm sc l
abbrev nlV : V := .d (.pl (.slice none 0 0))
theorem repl_len (z : List D) : ∀ n, (repl n z).length = n * z.length
  | 0 => by simp [repl]
  | n + 1 => by simp only [repl, List.length_append, repl_len z n, Nat.add_mul]; omega
theorem apz_nil {s m bytes n e : Nat} {b : Bk} {z : List D} {h : Hp} {k : V → Hp → Prop} {u : PU k} (hs : h[s]? = some (e, b)) (hn : 0 < n) (hb : (n : Int) * bytes ≤ 140737488355328)
    (hk : k (.ref s (e + 1) 0 n n (repl n z).length) (h.set s (e + 1, .data m (repl n z) false false))) : rh (apZ false s m bytes z nlV (I n) h) k u := by
  unfold rh apZ
  simp only
  rw [if_pos ⟨by omega, hb⟩]
  unfold apC
  rw [if_neg (by omega)]
  simp only [Int.toNat_natCast]
  have e : ((n * bytes : Nat) : Int) = (n : Int) * bytes := Int.natCast_mul ..
  rw [if_pos (by rw [← e] at hb; omega)]
  simp only [new, hs]
  exact hk
theorem ap_fill {s' s e len cap n k bytes tot : Nat} {old cs : List D} {h : Hp} {q : V → Hp → Prop} {u : PU q} (hg : h[s]? = some (e, .data n old false false)) (hn : 0 < n) (ht : tot = old.length) (hold : old.length = cap * n) (hlk : len + k ≤ cap) (hcs : cs.length = k * n)
    (hq : q (.ref s e 0 (len + k) cap tot) (h.set s (e, .data n (old.take (len * n) ++ cs ++ old.drop ((len + k) * n)) false false))) : rh (apV false s' n bytes (.ref s e 0 len cap tot) (.d (.sl k cs)) h) q u := by
  subst ht
  unfold rh apV
  simp only [cellsOf]
  rw [if_pos hcs]
  unfold apC
  by_cases hk : k = 0
  · subst hk
    have : cs = [] := List.eq_nil_of_length_eq_zero (by omega)
    subst this
    rw [if_pos rfl]
    simp only
    rw [if_pos (by omega)]
    simp only [Nat.add_zero, List.append_nil, List.take_append_drop] at hq
    have e2 : h.set s (e, .data n old false false) = h := by
      apply List.ext_getElem?
      intro i
      by_cases hi : i = s
      · subst hi
        rw [List.getElem?_set_self (lt_of_get hg), hg]
      · rw [List.getElem?_set_ne (Ne.symm hi)]
    rw [e2] at hq
    exact hq
  · rw [if_neg hk]
    simp only [hget_of hg]
    have e1 : len * n + cs.length ≤ old.length := by
      rw [hcs, hold, ← Nat.add_mul]; exact Nat.mul_le_mul_right n hlk
    rw [if_pos ⟨trivial, trivial, by omega, by omega, hcs⟩, if_pos hlk]
    simp only [Bool.or_self, Bool.false_eq_true, if_false, Nat.zero_add]
    simp only [hset]
    exact hq
theorem ap_none {s n bytes : Nat} {x : Nat × List D} {h : Hp} {q : V → Hp → Prop} {u : PU q} (h0 : x.1 = 0) (hx : x.2.length = x.1 * n) (hq : q (.d (.pl (.slice none 0 0))) h) : rh (apV false s n bytes (.d (.pl (.slice none 0 0))) (.d (.sl x.1 x.2)) h) q u := by
  unfold rh apV
  simp only [cellsOf]
  rw [if_pos hx]
  unfold apC
  rw [if_pos h0]
  exact hq
def zS : List D := [.str [], .pl (.slice none 0 0)]
theorem capN_nl : capN nlV = some (I 0) := rfl
theorem lenV_nl : lenV nlV = some (I 0) := rfl
theorem slV_nl (h : Hp) (n : Nat) : slV h n nlV none (some (I 0)) = some nlV := rfl
theorem slV_ref0 {h : Hp} {s e cap n : Nat} {cs : List D} {ex fr : Bool} (hg : h[s]? = some (e, .data n cs ex fr)) : slV h n (.ref s e 0 cap cap cs.length) none (some (I 0)) = some (.ref s e 0 0 cap cs.length) := by
  simp [slV, hget_of hg, boV]
theorem grow_zero {h : Hp} (hu : (h.all fun x => underB h.length x.2) = true) : CI Y F.slices_Grow_api_Symbol_api_Symbol [nlV, I 0] h nlV h := by
  refine slices_Grow_api_Symbol_api_Symbol_i ?_
  simp (disch := first | omega | (simp <;> omega) | fail) [slices_Grow_api_Symbol_api_Symbol, capN_nl, lenV_nl]
  refine jo_in ?_
  simp (disch := first | omega | (simp <;> omega) | fail) []
  refine jo_in ?_
  simp (disch := first | omega | (simp <;> omega) | fail) []
  exact ⟨by simp, hu, .inl ⟨rfl, by simp [under]⟩⟩
theorem grow_in {n : Nat} (hn : 0 < n) (hb : n < 1000000) {h : Hp} (hu : (h.all fun x => underB h.length x.2) = true) : CI Y F.slices_Grow_api_Symbol_api_Symbol [nlV, I n] h (.new 2 (repl n zS) false 0 n) h := by
  refine slices_Grow_api_Symbol_api_Symbol_i ?_
  have h1 : ¬ ((n : Int) < 0) := by omega
  simp (disch := first | omega | (simp <;> omega) | fail) [slices_Grow_api_Symbol_api_Symbol, capN_nl, lenV_nl, h1]
  refine jo_in ?_
  simp (disch := first | omega | (simp <;> omega) | fail) []
  refine jo_in ?_
  simp (disch := first | omega | (simp <;> omega) | fail) [slV_nl]
  refine apz_nil (e := 0) (b := .none) (by simp) hn (by omega) ?_
  have hg : ((h ++ [(0, Bk.none)]).set h.length (1, .data 2 (repl n zS) false false))[h.length]? = some (1, .data 2 (repl n zS) false false) := by simp
  have e1 : (h ++ [(0, Bk.none)]).set h.length (1, .data 2 (repl n zS) false false) = h ++ [(1, .data 2 (repl n zS) false false)] := by simp
  show bnd (slV _ 2 _ none (some (I 0))) _
  rw [show repl n [D.str [], D.pl (Value.slice none 0 0)] = repl n zS from rfl, show (0 + 1 : Nat) = 1 from rfl]
  rw [slV_ref0 hg]
  simp only [bnd]
  rw [e1]
  refine ⟨by simp, hu, .inr (.inr (.inl ⟨h.length, 1, 0, n, 2, repl n zS, false, rfl, Nat.le_refl _, ?_, rfl⟩))⟩
  simp [hget]
def pr (x : Nat × List D) : D := .sl x.1 x.2
theorem lenV_pr (a : Nat × List D) : lenV (.d (pr a)) = some (I a.1) := rfl
theorem concat_l0 {a b : Nat × List D} (k : KL) (ha : a.1 < 1000) (hb : b.1 < 1000) (hk : k (.exit 0) [I (a.1 + b.1 : Nat)] [(0, .none), (0, .none)]) :
    lp (slices_Concat_api_Symbol_api_Symbol_l0 (CX Y) (lst pr [a, b]) (I 2)) [] [(0, .none), (0, .none)] [I 0, I 0] [(0, .none), (0, .none)] k := by
  have x0 : ∀ h : Hp, ixV h 1 (lst pr [a, b]) (I 0) = some (.dptr [pr a, pr b] 0) := fun h => ix_lst pr _ h rfl (by simp)
  have x1 : ∀ h : Hp, ixV h 1 (lst pr [a, b]) (I 1) = some (.dptr [pr a, pr b] 1) := fun h => ix_lst pr _ h rfl (by simp)
  have y0 : ∀ h : Hp, ld1 h (.dptr [pr a, pr b] 0) = some (.d (pr a)) := fun h => ld_nth pr (0, []) [a, b] h (by simp)
  have y1 : ∀ h : Hp, ld1 h (.dptr [pr a, pr b] 1) = some (.d (pr b)) := fun h => ld_nth pr (0, []) [a, b] h (by simp)
  have h1 : ¬ ((a.1 : Int) < 0) := by omega
  have h2 : ¬ ((a.1 : Int) + b.1 < 0) := by omega
  refine lp_in ?_
  simp (disch := first | omega | (simp <;> omega) | fail) [slices_Concat_api_Symbol_api_Symbol_l0]
  refine jo_in ?_
  simp (disch := first | omega | (simp <;> omega) | fail) [x0, y0, lenV_pr, h1]
  refine jo_in ?_
  simp (disch := first | omega | (simp <;> omega) | fail) []
  refine lp_in ?_
  simp (disch := first | omega | (simp <;> omega) | fail) [slices_Concat_api_Symbol_api_Symbol_l0]
  refine jo_in ?_
  simp (disch := first | omega | (simp <;> omega) | fail) [x1, y1, lenV_pr, h2]
  refine jo_in ?_
  simp (disch := first | omega | (simp <;> omega) | fail) []
  refine lp_in ?_
  simp (disch := first | omega | (simp <;> omega) | fail) [slices_Concat_api_Symbol_api_Symbol_l0]
  simpa using hk
theorem concatSym_ok {a b : Nat × List D} (ha : a.1 < 1000) (hb : b.1 < 1000) (ha2 : a.2.length = a.1 * 2) (hb2 : b.2.length = b.1 * 2) :
    CP Y F.slices_Concat_api_Symbol_api_Symbol [.d (.sl 2 [pr a, pr b])] (.d (.sl (a.1 + b.1) (a.2 ++ b.2))) := by
  refine slices_Concat_api_Symbol_api_Symbol_i ?_
  have x0 : ∀ h : Hp, ixV h 1 (lst pr [a, b]) (I 0) = some (.dptr [pr a, pr b] 0) := fun h => ix_lst pr _ h rfl (by simp)
  have x1 : ∀ h : Hp, ixV h 1 (lst pr [a, b]) (I 1) = some (.dptr [pr a, pr b] 1) := fun h => ix_lst pr _ h rfl (by simp)
  have y0 : ∀ h : Hp, ld1 h (.dptr [pr a, pr b] 0) = some (.d (pr a)) := fun h => ld_nth pr (0, []) [a, b] h (by simp)
  have y1 : ∀ h : Hp, ld1 h (.dptr [pr a, pr b] 1) = some (.d (pr b)) := fun h => ld_nth pr (0, []) [a, b] h (by simp)
  have eT : V.d (.sl 2 [pr a, pr b]) = lst pr [a, b] := rfl
  rw [eT]
  have hl : lenV (lst pr [a, b]) = some (I 2) := rfl
  simp (disch := first | omega | (simp <;> omega) | fail) [slices_Concat_api_Symbol_api_Symbol, hl]
  refine lo (concat_l0 _ ha hb ?_)
  simp only [exK_exit]
  rcases Nat.eq_zero_or_pos (a.1 + b.1) with h0 | h0
  · have hu : (([(0, Bk.none), (0, Bk.none)] : Hp).all fun x => underB 2 x.2) = true := by simp [underB]
    rw [h0]
    simp (disch := first | omega | (simp <;> omega) | fail) []
    refine rh_in (cai_of (grow_zero hu) ?_ (by simp))
    simp (disch := first | omega | (simp <;> omega) | fail) [hl]
    refine lo (lp_in ?_)
    simp (disch := first | omega | (simp <;> omega) | fail) [slices_Concat_api_Symbol_api_Symbol_l1, x0, y0]
    refine ap_none (x := a) (by omega) ha2 ?_
    simp (disch := first | omega | (simp <;> omega) | fail) []
    refine lp_in ?_
    simp (disch := first | omega | (simp <;> omega) | fail) [slices_Concat_api_Symbol_api_Symbol_l1, x1, y1]
    refine ap_none (x := b) (by omega) hb2 ?_
    simp (disch := first | omega | (simp <;> omega) | fail) []
    refine lp_in ?_
    simp (disch := first | omega | (simp <;> omega) | fail) [slices_Concat_api_Symbol_api_Symbol_l1]
    have e1 : a.2 = [] := List.eq_nil_of_length_eq_zero (by omega)
    have e2 : b.2 = [] := List.eq_nil_of_length_eq_zero (by omega)
    refine out_sn ?_
    simp [e1, e2, snap]
  · have hu : (([(0, Bk.none), (0, Bk.none)] : Hp).all fun x => underB 2 x.2) = true := by simp [underB]
    have hg := grow_in (n := a.1 + b.1) h0 (by omega) hu
    have hzl : (repl (a.1 + b.1) zS).length = (a.1 + b.1) * 2 := repl_len zS _
    generalize repl (a.1 + b.1) zS = old at hg hzl
    simp (disch := first | omega | (simp <;> omega) | fail) []
    refine rh_in (cai_new (s := 0) (e := 0) (b := .none) hg rfl ?_)
    simp (disch := first | omega | (simp <;> omega) | fail) [hl]
    refine lo (lp_in ?_)
    simp (disch := first | omega | (simp <;> omega) | fail) [slices_Concat_api_Symbol_api_Symbol_l1, x0, y0]
    refine ap_fill (k := a.1) (cs := a.2) rfl (by omega) rfl hzl (by omega) ha2 ?_
    simp (disch := first | omega | (simp <;> omega) | fail) []
    refine lp_in ?_
    simp (disch := first | omega | (simp <;> omega) | fail) [slices_Concat_api_Symbol_api_Symbol_l1, x1, y1]
    refine ap_fill (k := b.1) (cs := b.2) (old := a.2 ++ old.drop (a.1 * 2)) rfl (by omega) (by simp; omega) (by simp; omega) (by omega) hb2 ?_
    simp (disch := first | omega | (simp <;> omega) | fail) []
    refine lp_in ?_
    simp (disch := first | omega | (simp <;> omega) | fail) [slices_Concat_api_Symbol_api_Symbol_l1]
    have e2 : (a.2 ++ old.drop (a.1 * 2)).drop ((a.1 + b.1) * 2) = [] := List.drop_eq_nil_of_le (by simp; omega)
    rw [e2, List.append_nil]
    have e3 : (a.2 ++ b.2).length = (a.1 + b.1) * 2 := by simp; omega
    have e4 : old.length = (a.2 ++ b.2).length := by omega
    rw [e4]
    generalize a.2 ++ b.2 = cs at e3 e4 ⊢
    refine ⟨[(1, .data 2 cs false true), (0, .none)], ?_⟩
    have e5 : cs.take ((a.1 + b.1) * 2) = cs := List.take_of_length_le (by omega)
    simp [snap, toD, hget, hset, e3, e5]
section
variable {g : FuncId} {cs : List V} {p : Sym → Bool}
abbrev symA (s : Sym) : V := .agg [.d (.str s.1), .d (row s.2)]
theorem idxS_loop (l : List Sym) (hN : l.length < 1000000) (hs : ∀ s : Sym, snaps [] ([symA s] ++ cs) = some ([symA s] ++ cs, [])) (hp : ∀ x ∈ l, CP Y g ([symA x] ++ cs) (B (p x))) (k : KL) : ∀ (q a : List Sym), a ++ q = l →
    (idx p q = -1 → k (.exit 0) [] []) → (∀ i : Nat, idx p q = i → k .ret [I (a.length + i : Nat)] []) →
    lp (slices_IndexFunc_api_Symbol_api_Symbol_l0 (CX Y) (syms l) (.fn g [] cs) (I l.length)) [] [] [I a.length] [] k
  | [], a => by
    intro ha h0 _
    simp at ha
    subst ha
    refine lp_in ?_
    simp (disch := first | omega | (simp <;> omega) | fail) [slices_IndexFunc_api_Symbol_api_Symbol_l0]
    exact h0 rfl
  | x :: q, a => by
    intro ha h0 h1
    have hal : a.length < l.length := by subst ha; simp
    have e3 : nth ([], []) l a.length = x := by subst ha; simp
    have hpx := hp x (by subst ha; simp)
    have e1 := ixm_nth sc sc_len l [] (k := .i64) (i := (a.length : Int)) (by omega) (by omega)
    have e2 := ldm_nth sc sc_len ([], []) l [] hal
    rw [e3] at e2
    rw [Int.toNat_natCast] at e1
    refine lp_in ?_
    simp (disch := first | omega | (simp <;> omega) | fail) [slices_IndexFunc_api_Symbol_api_Symbol_l0, e1, e2, sc]
    refine cdf (fs := []) (args := [symA x]) (cs := cs) hpx (hs x) ?_
    simp (disch := first | omega | (simp <;> omega) | fail) []
    refine br_in (fun h => ?_) (fun h => ?_) <;> try simp (disch := first | omega | (simp <;> omega) | fail) [h]
    · have e : idx p (x :: q) = (0 : Nat) := by simp [idx, List.findIdx?_cons, h]
      simpa using h1 0 e
    · have := idxS_loop l hN hs hp k q (a ++ [x]) (by simpa using ha) (fun e => h0 ?_) (fun i e => ?_)
      · simpa [Int.add_assoc] using this
      · simp only [idx, List.findIdx?_cons, h, Bool.false_eq_true, if_false] at e ⊢
        cases hq : List.findIdx? p q <;> simp [hq] at e ⊢
      · have := h1 (i + 1) ?_
        · simpa [Nat.add_assoc, Nat.add_comm 1 i] using this
        · simp only [idx, List.findIdx?_cons, h, Bool.false_eq_true, if_false] at e ⊢
          cases hq : List.findIdx? p q <;> simp [hq] at e ⊢
          exact e
theorem containsSym_ok (hs : ∀ s : Sym, snaps [] ([symA s] ++ cs) = some ([symA s] ++ cs, [])) (hc : snaps [] cs = some (cs, [])) (l : List Sym) (hN : l.length < 1000000) (hp : ∀ x ∈ l, CP Y g ([symA x] ++ cs) (B (p x))) :
    CP Y F.slices_ContainsFunc_api_Symbol_api_Symbol [syms l, .fn g [] cs] (B (l.any p)) := by
  refine slices_ContainsFunc_api_Symbol_api_Symbol_i ?_
  simp (disch := first | omega | (simp <;> omega) | fail) [slices_ContainsFunc_api_Symbol_api_Symbol]
  refine cd (v := I (idx p l)) (slices_IndexFunc_api_Symbol_api_Symbol_i ?_) ?_ ?_
  · simp (disch := first | omega | (simp <;> omega) | fail) [slices_IndexFunc_api_Symbol_api_Symbol]
    refine lo (idxS_loop l hN hs hp _ l [] rfl (fun e => ?_) (fun i e => ?_))
    · simp [e]
    · simp [e]
  · simp (disch := first | omega | (simp <;> omega) | fail) []
    have := idx_neg p l
    have e : decide (0 ≤ idx p l) = l.any p := by rw [Bool.eq_iff_iff]; simpa using this
    rw [e]; exact out_bool ..
  · simp [snaps, snap, hc]
end
end Go.Vm
