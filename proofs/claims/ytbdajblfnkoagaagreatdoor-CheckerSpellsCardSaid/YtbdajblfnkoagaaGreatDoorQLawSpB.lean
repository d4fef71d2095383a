/- CheckerSpells: the law, once known() is true. -/
import Derived.Test.YtbdajblfnkoagaaGreatDoorQLawSp
set_option linter.unusedVariables false
set_option linter.unusedSimpArgs false
namespace Go.Vm
open Go Go.Am Go.Big
theorem lawSp_l0 {x0 x1 x2 x3 : Nat × Bk} {L : List Sym} {p40 : V} (hL : L.length < 50)
    {pp : Nat → V} (hix : ∀ y4 i, i < L.length → ixV [x0, x1, x2, x3, y4] 2 p40 (I i) = some (pp i) ∧ ldA [x0, x1, x2, x3, y4] 2 (pp i) = some (symA (nth ([], []) L i)))
    (o0 : offB [4] x0.2 = true) (o1 : offB [4] x1.2 = true) (o2 : offB [4] x2.2 = true) (o3 : offB [4] x3.2 = true) (k : KL) :
    ∀ (q p : List Sym), p ++ q = L → ((∀ s ∈ q, s.2.length ≤ 6) → k (.exit 0) [] [x0, x1, x2, x3, (0, .none)]) → (∀ h, k .ret [B true] h) →
    lp (schismalaw55_CheckerSpells_l0 (CX Y) p40 (I L.length)) [4] [x0, x1, x2, x3, (0, .none)] [I p.length] [x0, x1, x2, x3, (0, .none)] k
  | [] => by
    intro p hp h0 h1
    simp at hp
    subst hp
    refine lp_in ?_
    simp (disch := first | omega | (simp <;> omega) | fail) [schismalaw55_CheckerSpells_l0]
    exact h0 (by simp)
  | s :: q => by
    intro p hp h0 h1
    have hpl : p.length < L.length := by subst hp; simp
    have e3 : nth ([], []) L p.length = s := by subst hp; simp
    have hix1 := fun y4 => (hix y4 p.length hpl).1
    have hix2 := fun y4 => (hix y4 p.length hpl).2
    simp only [e3] at hix2
    have e4 : lenV (.d (row s.2)) = some (I s.2.length) := rfl
    generalize pp p.length = pv at hix1 hix2
    refine lp_in ?_
    by_cases g : 6 < s.2.length
    · simp (disch := first | omega | (simp <;> omega) | fail) [schismalaw55_CheckerSpells_l0, hix1, hix2, e4, g]
      exact h1 _
    · have ih := lawSp_l0 hL hix o0 o1 o2 o3 k q (p ++ [s]) (by simpa using hp) (fun e => h0 (by intro t ht; rcases List.mem_cons.1 ht with rfl | ht; omega; exact e t ht)) h1
      simp (disch := first | omega | (simp <;> omega) | fail) [schismalaw55_CheckerSpells_l0, hix1, hix2, e4, g, clean, offSs_nl, offSs_cn, offS_int, offH_cons, offH, offB_vars, offB_none, o0, o1, o2, o3, reset_cons, reset_end, notIn_nil, notIn_cons, beq_lit]
      simpa using ih
theorem reads5 {x0 x1 x2 x3 : Nat × Bk} {L : List Sym} {s tot : Nat} {ex fr : Bool} (hs : s = 2 ∨ s = 3) (h2 : s = 2 → x2 = (1, .data 2 (L.flatMap sc) ex fr)) (h3 : s = 3 → x3 = (1, .data 2 (L.flatMap sc) ex fr)) (ht : tot = (L.flatMap sc).length) {N : Nat} (hN : N = L.length) :
    ∀ y4 i, i < L.length → ixV [x0, x1, x2, x3, y4] 2 (.ref s 1 0 N N tot) (I i) = some (.ptr s 1 (i * 2) tot) ∧ ldA [x0, x1, x2, x3, y4] 2 (.ptr s 1 (i * 2) tot) = some (symA (nth ([], []) L i)) := by
  intro y4 i hi
  have hc := cut_flat sc sc_len ([], []) L (j := i) hi
  have hg : hget [x0, x1, x2, x3, y4] s 1 = .data 2 (L.flatMap sc) ex fr := by
    rcases hs with rfl | rfl
    · rw [h2 rfl]; rfl
    · rw [h3 rfl]; rfl
  constructor
  · simp only [ixV, hg]
    rw [if_pos ⟨ht, by omega, by omega⟩]
    simp
  · simp only [ldA, hg, ht, if_true, hc]
    rfl
theorem ap_nil2 {s n by_ e k : Nat} {b : Bk} {cs : List D} {h : Hp} {q : V → Hp → Prop} {u : PU q} (hk : 0 < k) (hcs : cs.length = k * n) (hb : k * by_ ≤ 140737488355328) (hs : h[s]? = some (e, b))
    (hq : q (.ref s (e + 1) 0 k k cs.length) (h.set s (e + 1, .data n cs false false))) : rh (apV false s n by_ nlV (.d (.sl k cs)) h) q u := by
  unfold rh apV
  simp only [cellsOf]
  rw [if_pos hcs]
  unfold apC
  rw [if_neg (by omega)]
  simp only
  rw [if_pos hb]
  simp only [new, hs]
  exact hq
theorem ap_grow {s s' e L n k by_ tot : Nat} {old cs : List D} {h : Hp} {q : V → Hp → Prop} {u : PU q} (hg : h[s]? = some (e, .data n old false false)) (ht : tot = L * n) (hold : old.length = L * n) (hn : 0 < n) (hcs : cs.length = k * n) (hb : (L + k) * by_ ≤ 140737488355328)
    (h0 : k = 0 → q (.ref s e 0 L L tot) h) (h1 : 0 < k → q (.ref s e 0 (L + k) (L + k) (L * n + cs.length)) (h.set s (e, .data n (old ++ cs) false false))) : rh (apV false s' n by_ (.ref s e 0 L L tot) (.d (.sl k cs)) h) q u := by
  unfold rh apV
  simp only [cellsOf]
  rw [if_pos hcs]
  unfold apC
  by_cases hk : k = 0
  · rw [if_pos hk]
    simp only [Nat.le_refl, if_true]
    exact h0 hk
  · rw [if_neg hk]
    have hpos : 0 < k * n := Nat.mul_pos (by omega) hn
    simp only [hget_of hg]
    rw [if_pos ⟨trivial, by omega, Nat.le_refl _, by omega, hcs⟩, if_neg (by omega), if_pos hb]
    simp only [Bool.false_eq_true, if_false, Bool.or_self, List.drop_zero]
    rw [if_pos ⟨by omega, by omega⟩, List.take_of_length_le (by omega)]
    exact h1 (by omega)
section
variable {noms accs : List Sym} {kk : Int} {cs x : List Int}
theorem law_spells_of (hkn : CP Y F.schismalaw55_known [] (B true)) : CP Y F.schismalaw55_CheckerSpells [.agg [syms noms, syms accs], .agg [I kk, lst di cs], lst di x] (B true) := by
  refine schismalaw55_CheckerSpells_i ?_
  have l1 : lenV (syms noms) = some (I noms.length) := rfl
  have l2 : lenV (syms accs) = some (I accs.length) := rfl
  simp (disch := first | omega | (simp <;> omega) | fail) [schismalaw55_CheckerSpells]
  refine cd hkn ?_
  by_cases g1 : 4 < noms.length
  · simp (disch := first | omega | (simp <;> omega) | fail) [l1, l2, g1]
    refine cd hkn ?_
    simp (disch := first | omega | (simp <;> omega) | fail) []
  by_cases g2 : 3 < accs.length
  · simp (disch := first | omega | (simp <;> omega) | fail) [l1, l2, g1, g2]
    refine cd hkn ?_
    simp (disch := first | omega | (simp <;> omega) | fail) []
  by_cases g3 : 4 < cs.length
  · simp (disch := first | omega | (simp <;> omega) | fail) [l1, l2, g1, g2, g3]
    refine cd hkn ?_
    simp (disch := first | omega | (simp <;> omega) | fail) []
  by_cases g4 : 6 < x.length
  · simp (disch := first | omega | (simp <;> omega) | fail) [l1, l2, g1, g2, g3, g4]
    refine cd hkn ?_
    simp (disch := first | omega | (simp <;> omega) | fail) []
  simp (disch := first | omega | (simp <;> omega) | fail) [l1, l2, g1, g2, g3, g4]
  have main : ∀ (p40 : V) (x2 x3 : Nat × Bk) (pp : Nat → V), offB [4] x2.2 = true → offB [4] x3.2 = true → lenV p40 = some (I (noms ++ accs).length) →
      (∀ y4 i, i < (noms ++ accs).length → ixV [(1, .vars [syms noms, syms accs]), (1, .vars [I kk, lst di cs]), x2, x3, y4] 2 p40 (I i) = some (pp i) ∧ ldA [(1, .vars [syms noms, syms accs]), (1, .vars [I kk, lst di cs]), x2, x3, y4] 2 (pp i) = some (symA (nth ([], []) (noms ++ accs) i))) →
      (bnd (lenV p40) fun v31 =>
              lp (schismalaw55_CheckerSpells_l0 (CX Y) p40 v31) [4] [(1, .vars [syms noms, syms accs]), (1, .vars [I kk, lst di cs]), x2, x3, (0, .none)] [V.d (D.int IntKind.i64 0)] [(1, .vars [syms noms, syms accs]), (1, .vars [I kk, lst di cs]), x2, x3, (0, .none)]
                (exK
                  [(Exit.exit 0, fun l32 h =>
                      bnd (ldA h 2 (V.ptr 0 1 0 2)) fun v33 =>
                        bnd (ldA h 2 (V.ptr 1 1 0 2)) fun v34 =>
                          cal (CX Y).p h (V.fn F.checker_Spells [] []) [v33, v34, lst di x] fun v35 h =>
                            bnd (ldA h 2 (V.ptr 0 1 0 2)) fun v36 =>
                              bnd (ldA h 2 (V.ptr 1 1 0 2)) fun v37 =>
                                cal (CX Y).p h (V.fn F.schismalaw55_spells [] []) [v36, v37, lst di x] fun v38 h =>
                                  bnd (biB BinOp.eql v35 v38) fun v39 => out (B true) v39 h),
                    (Exit.ret, fun l32 h => out (B true) (ge l32 0) h)])) := by
    intro p40 x2 x3 pp o2 o3 hlen hix
    obtain ⟨L, hLL⟩ : ∃ L, noms ++ accs = L := ⟨_, rfl⟩
    have hLl : L.length < 50 := by rw [← hLL]; simp; omega
    rw [hLL] at hlen hix
    simp (disch := first | omega | (simp <;> omega) | fail) [hlen]
    refine lo (lawSp_l0 (x0 := (1, .vars [syms noms, syms accs])) (x1 := (1, .vars [I kk, lst di cs])) (x2 := x2) (x3 := x3) (L := L) hLl hix rfl rfl o2 o3 _ L [] rfl (fun e => ?_) (fun h => ?_))
    · have hC := spellsC_ok (noms := noms) (accs := accs) (kk := kk) (cs := cs) (x := x) (by omega) (by omega) (by omega) (by omega) (fun s hs => by rw [hLL] at hs; have := e s hs; omega)
      have hL := spellsL_ok (noms := noms) (accs := accs) (kk := kk) (cs := cs) (x := x) (by omega) (by omega) (by omega) (by omega) (fun s hs => by rw [hLL] at hs; have := e s hs; omega)
      simp (disch := first | omega | (simp <;> omega) | fail) []
      refine cd hC ?_ (by simp [snaps, snap])
      simp (disch := first | omega | (simp <;> omega) | fail) []
      refine cd hL ?_ (by simp [snaps, snap])
      simp (disch := first | omega | (simp <;> omega) | fail) []
    · simp only [exK_ret2, exK_ret]
      exact out_b rfl
  have fl := fun l : List Sym => flat_len sc sc_len l
  by_cases hn0 : noms = []
  · subst hn0
    refine rh_in (show caiP (CX Y).i _ (.fn F.slices_Clone_api_Symbol_api_Symbol [] []) [syms []] 2 _ from ?_)
    simp only [caiP, List.nil_append, List.append_nil, snaps, snap_lstm]
    refine ⟨_, cloneSym_nil (h := []) rfl, ?_, ?_⟩
    · simp (disch := first | omega | (simp <;> omega) | fail) []
      by_cases ha : accs = []
      · subst ha
        refine ap_none (x := (0, [])) rfl rfl ?_
        exact main nlV (0, .none) (0, .none) (fun _ => .junk) rfl rfl rfl (fun y4 i hi => by simp at hi)
      · have hpos : 0 < accs.length := List.length_pos_iff.2 ha
        refine ap_nil2 (e := 0) (b := .none) hpos (fl accs) (by omega) rfl ?_
        exact main _ (0, .none) _ _ rfl rfl (by simp [lenV]) (reads5 (.inr rfl) (fun h => by omega) (fun _ => rfl) rfl rfl)
    · simp (disch := first | omega | (simp <;> omega) | fail) [new]
      refine ap_lis (L := 0) (old := []) (e' := 0) (b' := .none) rfl rfl rfl rfl (fl accs) (by omega) (fun h => ?_) fun h => ?_
      · have : accs = [] := List.eq_nil_of_length_eq_zero h
        subst this
        exact main _ _ (0, .none) _ rfl rfl rfl (reads5 (L := []) (.inl rfl) (fun h => rfl) (fun h => by omega) rfl rfl)
      · simp only [Nat.zero_add, Nat.zero_mul, List.nil_append]
        exact main _ _ _ _ rfl rfl (by simp [lenV]) (reads5 (.inr rfl) (fun h => by omega) (fun _ => rfl) rfl rfl)
  · have hpos : 0 < noms.length := List.length_pos_iff.2 hn0
    refine rh_in (show caiP (CX Y).i _ (.fn F.slices_Clone_api_Symbol_api_Symbol [] []) [syms noms] 2 _ from ?_)
    simp only [caiP, List.nil_append, List.append_nil, snaps, snap_lstm]
    refine ⟨_, cloneSym_in (h := []) rfl hpos (by omega), ?_⟩
    simp (disch := first | omega | (simp <;> omega) | fail) [new]
    refine ap_grow (L := noms.length) (old := noms.flatMap sc) rfl (by have := fl noms; simpa using this) (fl noms) (by omega) (fl accs) (by omega) (fun h => ?_) fun h => ?_
    · have : accs = [] := List.eq_nil_of_length_eq_zero h
      subst this
      exact main _ _ (0, .none) _ rfl rfl (by simp [lenV]) (reads5 (L := noms ++ []) (ex := false) (fr := false) (.inl rfl) (fun h => by simp) (fun h => by omega) (by simp) (by simp))
    · exact main _ _ (0, .none) _ rfl rfl (by simp [lenV]) (reads5 (L := noms ++ accs) (ex := false) (fr := false) (.inl rfl) (fun h => by simp) (fun h => by omega) (by rw [fl, fl, List.length_append]; omega) (by simp))
end
end Go.Vm
