/- The law spells: whole numbers in any slot. -/
import Derived.Test.YtbdajblfnkoagaaGreatDoorQCkSpell
import Derived.Test.YtbdajblfnkoagaaGreatDoorQLawM
set_option linter.unusedVariables false
set_option linter.unusedSimpArgs false
namespace Go.Vm
open Go Go.Am Go.Big
theorem ldA_wcS {h : Hp} {s e : Nat} (zs : List Int) {ex fr : Bool} (hg : h[s]? = some (e, .data 2 (zs.flatMap wc) ex fr)) {c L : Nat} (hL : L = (zs.flatMap wc).length) (hc : c < zs.length) : ldA h 2 (.ptr s e (c * 2) L) = some (intW (nth 0 zs c)) := by
  have := cut_flat wc wc_len 0 zs hc
  rw [← wc_map]
  simp only [ldA, hget_of hg]
  rw [if_pos hL, this]
theorem st_wcS {h : Hp} {s e : Nat} (zs : List Int) (z : Int) {ex : Bool} (hg : h[s]? = some (e, .data 2 (zs.flatMap wc) ex false)) {c L : Nat} (hL : L = (zs.flatMap wc).length) (hc : c < zs.length) : st h 2 (.ptr s e (c * 2) L) (intW z) = some (h.set s (e, .data 2 ((zs.set c z).flatMap wc) ex false)) := by
  have hfs := flat_set wc wc_len z zs c hc
  have hlen := flat_len wc wc_len zs
  have hle : c * 2 + 2 ≤ (zs.flatMap wc).length := by rw [hlen]; omega
  have ew : wc z = [.bool (decide (z < 0)), .sl (len9 z.natAbs) ((dig Z z.natAbs).map i9)] := rfl
  rw [← hfs, ew]
  simp only [st, intW, wh, nat9, lst, sto, hget_of hg, if_true, List.length_cons, List.length_nil, toDs, toD, norm, hset, true_and]
  rw [if_pos ⟨hL, hle⟩]
  rfl
def addF (kq : Int) (r : List Int) : Nat → Nat → List Int → List Int
  | 0, _, zs => zs
  | m + 1, c, zs => addF kq r m (c + 1) (zs.set c (nth 0 zs c + kq * nth 0 r c))
theorem addF_len (kq : Int) (r : List Int) : ∀ (m c : Nat) (zs : List Int), (addF kq r m c zs).length = zs.length
  | 0, _, _ => rfl
  | m + 1, c, zs => by rw [addF, addF_len kq r m, List.length_set]
theorem ixS_wc {h : Hp} {s e n : Nat} (zs : List Int) {ex fr : Bool} (hg : h[s]? = some (e, .data 2 (zs.flatMap wc) ex fr)) (hn : zs.length = n) {c : Nat} (hc : c < n) (k : IntKind) : ixV h 2 (.ref s e 0 n n (n * 2)) (.d (.int k (c : Int))) = some (.ptr s e (c * 2) (n * 2)) := by
  have hlen := flat_len wc wc_len zs
  simp only [ixV, hget_of hg]
  rw [if_pos ⟨by rw [hlen, hn], by omega, by omega⟩]
  simp
theorem lsp_l1 {kq : Int} {sy : Sym} {n : Nat} {x0 x1 x2 x3 x5 x6 : Nat × Bk} (hr : okRow sy.2 = true) (hrl : sy.2.length = n) (hk : okEnt kq = true) {M : Nat} (hM : M < 100) (hn1 : n < 1000) (k : KL) (h0 : Hp) (hh : h0.length = 8) :
    ∀ (m c : Nat) (zs : List Int), c + m = n → zs.length = n → (∀ z ∈ zs, z.natAbs ≤ (M + 1) * 1000000000000000000) → (∀ i, c ≤ i → (nth 0 zs i).natAbs ≤ M * 1000000000000000000) →
    (k (.exit 2) [] [x0, x1, x2, x3, (1, .data 2 ((addF kq sy.2 m c zs).flatMap wc) false false), x5, x6, (1, .vars [.d (.str sy.1), .d (row sy.2)])]) →
    lp (schismalaw55_spells_l1 (CX Y) (.ref 4 1 0 n n (n * 2)) (.ptr 7 1 0 2) (I kq) (I n)) [] h0 [I c] [x0, x1, x2, x3, (1, .data 2 (zs.flatMap wc) false false), x5, x6, (1, .vars [.d (.str sy.1), .d (row sy.2)])] k
  | 0, c => by
    intro zs hc hl hz hzc hkk
    have : c = n := by omega
    subst this
    refine lp_in ?_
    simp (disch := first | omega | (simp <;> omega) | fail) [schismalaw55_spells_l1]
    exact hkk
  | m + 1, c => by
    intro zs hc hl hz hzc hkk
    have hcn : c < n := by omega
    obtain ⟨w, hw⟩ : ∃ w, nth 0 sy.2 c = w := ⟨_, rfl⟩
    obtain ⟨z, hz0⟩ : ∃ z, nth 0 zs c = z := ⟨_, rfl⟩
    have e1 := fun (h : Hp) (hg : h[4]? = some (1, .data 2 (zs.flatMap wc) false false)) => ixS_wc zs hg hl hcn .i64
    have e2 := fun (h : Hp) (hg : h[4]? = some (1, .data 2 (zs.flatMap wc) false false)) => ldA_wcS zs hg (c := c) (L := n * 2) (by rw [flat_len wc wc_len zs, hl]) (by omega)
    have e5 := fun h : Hp => ix_row sy.2 h (k := .i64) (i := (c : Int)) (by omega) (by omega)
    have e6 := fun h : Hp => ld_row sy.2 h (j := c) (by omega)
    simp only [hw, hz0, Int.toNat_natCast] at e2 e5 e6
    refine lp_in ?_
    have f1 := e1 [x0, x1, x2, x3, (1, .data 2 (zs.flatMap wc) false false), x5, x6, (1, .vars [.d (.str sy.1), .d (row sy.2)])] rfl
    have f2 := e2 [x0, x1, x2, x3, (1, .data 2 (zs.flatMap wc) false false), x5, x6, (1, .vars [.d (.str sy.1), .d (row sy.2)])] rfl
    simp (disch := first | omega | (simp <;> omega) | fail) [schismalaw55_spells_l1, f1, f2]
    have hve : okEnt w = true := by
      simp only [okRow, List.all_eq_true] at hr
      rw [← hw]; exact hr _ (nth_mem (by omega))
    have hk1 := okEnt_iff.1 hk
    have hw1 := okEnt_iff.1 hve
    have hzM : z.natAbs ≤ M * 1000000000000000000 := by rw [← hz0]; exact hzc c (Nat.le_refl _)
    have hz2 := zb_mul hk hve hzM
    have hm := mul_ent hk hve
    have b1 := len9_small (big63 (M := 1) (by omega) (n := kq.natAbs) (by omega))
    have b2 := len9_small (big63 (M := 1) (by omega) (n := w.natAbs) (by omega))
    have b3 := len9_small (big63 (M := M) (by omega) hzM)
    have b4 := len9_small (big63 (M := 1) (by omega) (n := (kq * w).natAbs) (by omega))
    have b5 := len9_small (big63 (M := M + 1) (by omega) (n := z.natAbs + (kq * w).natAbs) (by omega))
    have hmu := mulW_ok (x := kq) (y := w) (by omega) (by omega)
    have had := addW_ok (x := z) (y := kq * w) (by omega) (by omega) (by omega)
    have ih := lsp_l1 (x0 := x0) (x1 := x1) (x2 := x2) (x3 := x3) (x5 := x5) (x6 := x6) hr hrl hk hM hn1 k h0 hh m (c + 1) (zs.set c (z + kq * w)) (by omega) (by simp [hl]) (fun y hy => by
      rcases List.mem_or_eq_of_mem_set hy with h | h
      · exact hz y h
      · rw [h]; exact hz2) (fun i hi => by
      have e : nth 0 (zs.set c (z + kq * w)) i = nth 0 zs i := by simp [nth, List.getElem?_set_ne (show c ≠ i by omega)]
      rw [e]; exact hzc i (by omega)) (by rw [addF, hz0, hw] at hkk; exact hkk)
    obtain ⟨t, ht⟩ : ∃ t, kq * w = t := ⟨_, rfl⟩
    rw [ht] at hmu had ih
    obtain ⟨u, hu⟩ : ∃ u, z + t = u := ⟨_, rfl⟩
    rw [hu] at had ih
    have f3 := st_wcS (h := [x0, x1, x2, x3, (1, .data 2 (zs.flatMap wc) false false), x5, x6, (1, .vars [.d (.str sy.1), .d (row sy.2)])]) (s := 4) (e := 1) zs u (ex := false) rfl (c := c) (L := n * 2) (by rw [flat_len wc wc_len zs, hl]) (by omega)
    refine cd (of_ok9 (z := kq) (by omega) (by omega)) ?_
    simp (disch := first | omega | (simp <;> omega) | fail) [e5, e6]
    refine cd (of_ok9 (z := w) (by omega) (by omega)) ?_
    simp (disch := first | omega | (simp <;> omega) | fail) []
    refine cd hmu ?_ (by simp [snaps, snap, intW, wh, nat9])
    simp (disch := first | omega | (simp <;> omega) | fail) []
    refine cd (args := [intW z, intW t]) had ?_ (by simp [snaps, snap, intW, wh, nat9])
    simp (disch := first | omega | (simp <;> omega) | fail) [f1, f3]
    simpa using ih
theorem addF_nth (kq : Int) (r : List Int) : ∀ (m c : Nat) (zs : List Int), c + m ≤ zs.length → ∀ i, nth 0 (addF kq r m c zs) i = if c ≤ i ∧ i < c + m then nth 0 zs i + kq * nth 0 r i else nth 0 zs i
  | 0, c, zs, _, i => by rw [addF, if_neg (by omega)]
  | m + 1, c, zs, h, i => by
    rw [addF, addF_nth kq r m (c + 1) _ (by rw [List.length_set]; omega)]
    by_cases hi : i = c
    · subst hi
      rw [if_neg (by omega), if_pos (by omega)]
      simp [nth, show i < zs.length by omega]
    · have e : nth 0 (zs.set c (nth 0 zs c + kq * nth 0 r c)) i = nth 0 zs i := by simp [nth, List.getElem?_set_ne (show c ≠ i by omega)]
      rw [e]
      by_cases h2 : c ≤ i ∧ i < c + (m + 1)
      · rw [if_pos (by omega), if_pos h2]
      · rw [if_neg (by omega), if_neg h2]
theorem addF_axpy {kq : Int} {r zs : List Int} (h : r.length = zs.length) : addF kq r zs.length 0 zs = axpy kq zs r := by
  refine ext_nth (by rw [addF_len, axpy_len h.symm]) fun c hc => ?_
  rw [addF_len] at hc
  rw [addF_nth _ _ _ _ _ (by omega), if_pos (by omega), axpy_nth h.symm hc]
def sB (n : Nat) (x : Nat × Bk) (zs : List Int) : Nat × Bk := if n = 0 then x else (1, .data 2 (zs.flatMap wc) false false)
theorem lsp_l1s {kq : Int} {sy : Sym} {n : Nat} {p7 : V} (hp7 : n = 0 ∨ p7 = .ref 4 1 0 n n (n * 2)) {x0 x1 x2 x3 x4 x5 x6 : Nat × Bk} (hr : okRow sy.2 = true) (hrl : sy.2.length = n) (hk : okEnt kq = true) {M : Nat} (hM : M < 100) (hn1 : n < 1000) (k : KL) (h0 : Hp) (hh : h0.length = 8)
    (zs : List Int) (hl : zs.length = n) (hz : ∀ z ∈ zs, z.natAbs ≤ M * 1000000000000000000)
    (hk2 : k (.exit 2) [] [x0, x1, x2, x3, sB n x4 (axpy kq zs sy.2), x5, x6, (1, .vars [.d (.str sy.1), .d (row sy.2)])]) :
    lp (schismalaw55_spells_l1 (CX Y) p7 (.ptr 7 1 0 2) (I kq) (I n)) [] h0 [I (0 : Nat)] [x0, x1, x2, x3, sB n x4 zs, x5, x6, (1, .vars [.d (.str sy.1), .d (row sy.2)])] k := by
  by_cases hn : n = 0
  · subst hn
    refine lp_in ?_
    simp (disch := first | omega | (simp <;> omega) | fail) [schismalaw55_spells_l1]
    simpa [sB] using hk2
  · obtain rfl : p7 = .ref 4 1 0 n n (n * 2) := by rcases hp7 with h | h; exact absurd h hn; exact h
    simp only [sB, hn, if_false] at hk2 ⊢
    refine lsp_l1 hr hrl hk hM hn1 k h0 hh n 0 zs (by omega) hl (fun z hz' => Nat.le_trans (hz z hz') (Nat.mul_le_mul_right _ (Nat.le_succ _))) (fun i _ => ?_) ?_
    · by_cases hi : i < zs.length
      · exact hz _ (nth_mem hi)
      · have : nth 0 zs i = 0 := by simp [nth, List.getElem?_eq_none (show zs.length ≤ i by omega)]
        rw [this]; simp
    · rw [← hl, addF_axpy (by omega)]
      exact hk2
theorem offB_sB {clr : List Nat} {n : Nat} {x : Nat × Bk} {zs : List Int} (h : offB clr x.2 = true) : offB clr (sB n x zs).2 = true := by
  unfold sB; split
  · exact h
  · rfl
theorem offB_vars (clr : List Nat) (l : List V) : offB clr (.vars l) = offSs clr l := rfl
theorem offSs_nl (clr : List Nat) : offSs clr [] = true := rfl
theorem offSs_cn (clr : List Nat) (x : V) (l : List V) : offSs clr (x :: l) = (offS clr x && offSs clr l) := rfl
section
variable {noms accs L : List Sym} {kk : Int} {cs x K : List Int} {p7 p58 : V} {x0 x3 x4 x5 x6 : Nat × Bk} {n : Nat}
theorem lsp_l0 (hp7 : n = 0 ∨ p7 = .ref 4 1 0 n n (n * 2)) (hn1 : n < 1000) (hx : x.length = n) (hL : L.length < 90) (hKL : K.length = L.length) (hK : K = 1 :: cs) (hKe : okRow K = true) (hrows : ∀ s ∈ L, s.2.length < 1000000)
    {pp : Nat → V} (hix : ∀ y4 y7 i, i < L.length → ixV [x0, (1, .vars [I kk, lst di cs]), (1, .vars [lst di x]), x3, y4, x5, x6, y7] 2 p58 (I i) = some (pp i) ∧ ldA [x0, (1, .vars [I kk, lst di cs]), (1, .vars [lst di x]), x3, y4, x5, x6, y7] 2 (pp i) = some (symA (nth ([], []) L i)))
    (o0 : offB [7] x0.2 = true) (o3 : offB [7] x3.2 = true) (o4 : offB [7] x4.2 = true) (o5 : offB [7] x5.2 = true) (o6 : offB [7] x6.2 = true) (zs0 : List Int) (k : KL) :
    ∀ (q p : List Sym) (kq kp zs : List Int), p ++ q = L → kp ++ kq = K → kp.length = p.length → zs.length = n → (∀ z ∈ zs, z.natAbs ≤ p.length * 1000000000000000000) →
    (q.all (symOk n) = true → (∀ z ∈ sumGo kq (q.map (·.2)) zs, z.natAbs ≤ L.length * 1000000000000000000) → k (.exit 0) [] [x0, (1, .vars [I kk, lst di cs]), (1, .vars [lst di x]), x3, sB n x4 (sumGo kq (q.map (·.2)) zs), x5, x6, (0, .none)]) →
    (q.all (symOk n) = false → ∀ h, k .ret [B false] h) →
    lp (schismalaw55_spells_l0 (CX Y) (.ptr 1 1 0 2) (.ptr 2 1 0 1) p7 p58 (I L.length)) [7] [x0, (1, .vars [I kk, lst di cs]), (1, .vars [lst di x]), x3, sB n x4 zs0, x5, x6, (0, .none)] [I p.length] [x0, (1, .vars [I kk, lst di cs]), (1, .vars [lst di x]), x3, sB n x4 zs, x5, x6, (0, .none)] k
  | [] => by
    intro p kq kp zs hp hkp hl hz hb h0 h1
    simp at hp
    subst hp
    have : kq = [] := by
      have e := congrArg List.length hkp
      simp at e
      exact List.eq_nil_of_length_eq_zero (by omega)
    subst this
    refine lp_in ?_
    simp (disch := first | omega | (simp <;> omega) | fail) [schismalaw55_spells_l0]
    exact h0 rfl hb
  | s :: q => by
    intro p kq kp zs hp hkp hl hz hb h0 h1
    cases kq with
    | nil =>
      exfalso
      have e := congrArg List.length hkp
      have e2 := congrArg List.length hp
      simp at e e2
      omega
    | cons κ kq =>
    have hpl : p.length < L.length := by subst hp; simp
    have e3 : nth ([], []) L p.length = s := by subst hp; simp
    have hκ : nth 0 K p.length = κ := by rw [← hl, ← hkp]; simp
    have hκe : okEnt κ = true := by
      simp only [okRow, List.all_eq_true] at hKe
      exact hKe κ (by rw [← hkp]; simp)
    have hs := hrows s (by subst hp; simp)
    have hix1 := fun y4 y7 => (hix y4 y7 p.length hpl).1
    have hix2 := fun y4 y7 => (hix y4 y7 p.length hpl).2
    simp only [e3] at hix2
    have e4 : lenV (.d (row s.2)) = some (I s.2.length) := rfl
    generalize pp p.length = pv at hix1 hix2
    refine lp_in ?_
    by_cases g : s.2.length = x.length
    case neg =>
      simp (disch := first | omega | (simp <;> omega) | fail) [schismalaw55_spells_l0, hix1, hix2, e4, g]
      exact h1 (by simp [symOk, ← hx, g]) _
    cases g2 : okRow s.2 with
    | false =>
      simp (disch := first | omega | (simp <;> omega) | fail) [schismalaw55_spells_l0, hix1, hix2, e4, g]
      refine cd (args := [lst di s.2]) (rowRight_ok (r := s.2) (by omega)) ?_ (by simp [snaps])
      simp (disch := first | omega | (simp <;> omega) | fail) [g2]
      exact h1 (by simp [symOk, g2]) _
    | true =>
      have hbz := axpy_bound hκe zs s.2 g2 hb
      have ih := lsp_l0 hp7 hn1 hx hL hKL hK hKe hrows hix o0 o3 o4 o5 o6 zs0 k q (p ++ [s]) kq (kp ++ [κ]) (axpy κ zs s.2) (by simpa using hp) (by simpa using hkp) (by simp [hl]) (by rw [axpy_len (by omega)]; exact hz) (by simpa using hbz)
        (fun e => h0 (by simp only [List.all_cons, e, symOk, g2, Bool.and_true, decide_eq_true_eq]; omega)) (fun e => h1 (by simp only [List.all_cons, e, Bool.and_false]))
      simp (disch := first | omega | (simp <;> omega) | fail) [schismalaw55_spells_l0, hix1, hix2, e4, g]
      refine cd (args := [lst di s.2]) (rowRight_ok (r := s.2) (by omega)) ?_ (by simp [snaps])
      simp (disch := first | omega | (simp <;> omega) | fail) [g2]
      refine jo_to (l := [I κ]) (h := [x0, (1, .vars [I kk, lst di cs]), (1, .vars [lst di x]), x3, sB n x4 zs, x5, x6, (1, .vars [.d (.str s.1), .d (row s.2)])]) (fun q => ?_) ?_
      · by_cases hp0 : p.length = 0
        · have : κ = 1 := by rw [hp0, hK] at hκ; exact hκ.symm
          subst this
          simp (disch := first | omega | (simp <;> omega) | fail) [hp0]
        · have hc : nth 0 cs (p.length - 1) = κ := by
            rw [hK, show p.length = p.length - 1 + 1 by omega] at hκ; exact hκ
          have hcl : K.length = cs.length + 1 := by rw [hK]; rfl
          have hpos : 0 < p.length := by omega
          have e5 := fun h : Hp => ix_row cs h (k := .i64) (i := (p.length : Int) - 1) (by omega) (by omega)
          have e6 := fun h : Hp => ld_row cs h (j := p.length - 1) (by omega)
          rw [hc] at e6
          rw [show ((p.length : Int) - 1).toNat = p.length - 1 by omega] at e5
          simp (disch := first | omega | (simp <;> omega) | fail) [hpos, e5, e6]
      · simp (disch := first | omega | (simp <;> omega) | fail) []
        rw [hx]
        refine lo (lsp_l1s (x4 := x4) hp7 g2 (by omega) hκe (M := p.length) (by omega) hn1 _ _ rfl zs hz hb ?_)
        have os := fun zs => offB_sB (clr := [7]) (n := n) (x := x4) (zs := zs) o4
        simp (disch := first | omega | (simp <;> omega) | fail) [clean, offSs_nl, offSs_cn, offS_int, offH_cons, offH, offB_vars, offB_none, o0, o3, os, o5, o6, reset_cons, reset_end, notIn_nil, notIn_cons, beq_lit]
        simpa [lst, offS_int] using ih
end
@[simp] theorem rh_boxL {α : Type} (s : Nat) (f : α → D) (l : List α) (h : Hp) (k : V → Hp → Prop) (u : PU k) : rh (boxD s (lst f l) h) k u = rh (alV s [lst f l] h) k u := id rfl
theorem ap_lis {s s' e e' L n k by_ tot : Nat} {b' : Bk} {old cs : List D} {fr : Bool} {h : Hp} {q : V → Hp → Prop} {u : PU q} (hg : h[s]? = some (e, .data n old true fr)) (hs' : h[s']? = some (e', b')) (ht : tot = L * n) (hold : old.length = L * n) (hcs : cs.length = k * n) (hb : (L + k) * by_ ≤ 140737488355328)
    (h0 : k = 0 → q (.ref s e 0 L L tot) h) (h1 : 0 < k → q (.ref s' (e' + 1) 0 (L + k) (L + k) (L * n + cs.length)) (h.set s' (e' + 1, .data n (old ++ cs) false false))) : rh (apV false s' n by_ (.ref s e 0 L L tot) (.d (.sl k cs)) h) q u := by
  unfold rh apV
  simp only [cellsOf]
  rw [if_pos hcs]
  unfold apC
  by_cases hk : k = 0
  · rw [if_pos hk]
    simp only [Nat.le_refl, if_true]
    exact h0 hk
  · rw [if_neg hk]
    simp only [hget_of hg]
    rw [if_pos ⟨trivial, by omega, Nat.le_refl _, by omega, hcs⟩, if_neg (by omega), if_pos hb]
    simp only [if_true, new, hs', List.drop_zero]
    rw [List.take_of_length_le (by omega)]
    exact h1 (by omega)
theorem toRow_any {x0 x1 x2 : Nat × Bk} {n : Nat} {k : V → Hp → Prop} {u : PU k} (hu : ([x0, x1, x2, (1, .data 1 (List.replicate n (D.int .i64 0)) true false), (0, .none), (0, .none), (0, .none), (0, .none)].all fun x => underB 8 x.2) = true) (hn : n < 1000)
    (hk : ∀ p7 x4, (n = 0 ∨ p7 = .ref 4 1 0 n n (n * 2)) → (n = 0 → p7 = .d (.sl 0 [])) → offB [7] x4.2 = true → k p7 [x0, x1, x2, (1, .data 1 (List.replicate n (D.int .i64 0)) true false), sB n x4 (List.replicate n 0), (0, .none), (0, .none), (0, .none)]) :
    rh (cai (CX Y).i [x0, x1, x2, (1, .data 1 (List.replicate n (D.int .i64 0)) true false), (0, .none), (0, .none), (0, .none), (0, .none)] (.fn F.schismaref07_ToRow [] []) [.ref 3 1 0 n n n] 4) k u := by
  by_cases h0 : n = 0
  · subst h0
    refine cai_of (toRow_nil hu rfl) ?_ (by simp)
    exact hk _ (0, .none) (.inl rfl) (fun _ => rfl) rfl
  · have hs : (List.replicate n (D.int IntKind.i64 0)) = (List.replicate n (0 : Int)).map di := by simp [di]
    rw [hs] at hu hk ⊢
    have htr := toRow_in (h := [x0, x1, x2, (1, .data 1 ((List.replicate n (0 : Int)).map di) true false), (0, .none), (0, .none), (0, .none), (0, .none)]) (a := .ref 3 1 0 n n n) (r := List.replicate n 0) hu (by simp; omega) (by simp [lenV]) (fun n hn => by rw [List.mem_replicate] at hn; omega)
      (fun y i hi => ⟨.ptr 3 1 i n, by
        simp only [List.length_replicate] at hi
        constructor
        · simp [ixV, hget]; omega
        · simp [ld1, hget, nth_eq, hi, di]⟩) (by intro e; have := congrArg List.length e; simp at this; exact h0 this)
    simp only [List.length_replicate] at htr
    refine rh_in (cai_new (s := 4) (e := 0) (b := .none) htr rfl ?_)
    rw [flat_len wc wc_len, List.length_replicate]
    have := hk _ (0, .none) (.inr rfl) (fun h => absurd h h0) rfl
    simp only [sB, h0, if_false] at this
    exact this
theorem ap_any {x0 x1 x2 x3 x4 : Nat × Bk} {s0 : Sym} {accs : List Sym} {k : V → Hp → Prop} {u : PU k} (ha : accs.length < 50)
    (hk : ∀ (p58 : V) (x5 x6 : Nat × Bk) (pp : Nat → V), offB [7] x5.2 = true → offB [7] x6.2 = true → lenV p58 = some (I (accs.length + 1 : Nat)) →
      (∀ y4 y7 i, i < accs.length + 1 → ixV [x0, x1, x2, x3, y4, x5, x6, y7] 2 p58 (I i) = some (pp i) ∧ ldA [x0, x1, x2, x3, y4, x5, x6, y7] 2 (pp i) = some (symA (nth ([], []) (s0 :: accs) i))) → k p58 [x0, x1, x2, x3, x4, x5, x6, (0, .none)]) :
    rh (apV false 6 2 40 (.ref 5 1 0 1 1 2) (syms accs) [x0, x1, x2, x3, x4, (1, .data 2 (sc s0) true false), (0, .none), (0, .none)]) k u := by
  have hfl := flat_len sc sc_len accs
  have hfl2 := flat_len sc sc_len (s0 :: accs)
  refine ap_lis (e' := 0) (b' := .none) rfl rfl rfl rfl hfl (by omega) (fun h => ?_) fun h => ?_
  · have : accs = [] := List.eq_nil_of_length_eq_zero h
    subst this
    refine hk _ _ _ (fun i => .ptr 5 1 (i * 2) 2) rfl rfl rfl fun y4 y7 i hi => ?_
    obtain rfl : i = 0 := by simp at hi; omega
    exact ⟨by simp [ixV, hget, sc], by simp [ldA, hget, sc, cut, nth]⟩
  · refine hk _ (1, .data 2 (sc s0) true false) (1, .data 2 (sc s0 ++ accs.flatMap sc) false false) (fun i => .ptr 6 1 (i * 2) (2 + accs.length * 2)) rfl rfl (by simp [lenV]; omega) fun y4 y7 i hi => ?_
    have hl : (sc s0 ++ accs.flatMap sc).length = 2 + accs.length * 2 := by simp [hfl, sc]; omega
    constructor
    · simp only [ixV, hget, List.getElem?_cons_succ, List.getElem?_cons_zero, if_true, hl]
      rw [if_pos ⟨by omega, by omega, by omega⟩]
      simp [hfl]
    · have hc := cut_flat sc sc_len ([], []) (s0 :: accs) (j := i) (by simpa using hi)
      rw [List.flatMap_cons] at hc
      simp only [ldA, hget, List.getElem?_cons_succ, List.getElem?_cons_zero, if_true, hl, hc]
      rfl
theorem allF_iff (P : Nat → Bool) : ∀ m c, allF P m c = true ↔ ∀ i, c ≤ i → i < c + m → P i = true
  | 0, c => by simp [allF]; intro i; omega
  | m + 1, c => by
    rw [allF, Bool.and_eq_true, allF_iff P m (c + 1)]
    constructor
    · rintro ⟨h1, h2⟩ i hi hi2
      by_cases h : i = c
      · subst h; exact h1
      · exact h2 i (by omega) (by omega)
    · exact fun h => ⟨h c (Nat.le_refl _) (by omega), fun i h1 h2 => h i (by omega) (by omega)⟩
theorem spells_pure {noms accs : List Sym} {k : Nat} {cs x : List Int} (hc : cs.length = accs.length) (hr : ∀ r ∈ (nth ([], []) noms k :: accs).map (·.2), r.length = x.length) :
    decide (sumGo (1 :: cs) ((nth ([], []) noms k :: accs).map (·.2)) (List.replicate x.length 0) = x) = allF (fun c => decide (sumS noms accs k cs c = nth 0 x c)) x.length 0 := by
  have hsl : (sumGo (1 :: cs) ((nth ([], []) noms k :: accs).map (·.2)) (List.replicate x.length 0)).length = x.length := by rw [sumGo_len _ _ _ (by simpa using hr)]; simp
  have hn : ∀ c, c < x.length → nth 0 (sumGo (1 :: cs) ((nth ([], []) noms k :: accs).map (·.2)) (List.replicate x.length 0)) c = sumS noms accs k cs c := fun c h => by
    rw [sumGo_nth _ _ _ (by simpa using hr) (by simp [hc]) (by simpa using h), nth_eq _ _ _ (by simpa using h)]
    simp [sumS, dotI, colI]
  rw [Bool.eq_iff_iff, decide_eq_true_eq, allF_iff]
  constructor
  · intro h i _ hi
    rw [decide_eq_true_eq, ← hn i (by omega), h]
  · intro h
    refine ext_nth hsl fun c h1 => ?_
    rw [hsl] at h1
    rw [hn c h1]
    exact of_decide_eq_true (h c (Nat.zero_le _) (by omega))
section
variable {noms accs : List Sym} {kk : Int} {cs x : List Int}
theorem spellsL_ok (hn : noms.length < 50) (ha : accs.length < 50) (hN : cs.length ≤ 1000) (hxN : x.length < 1000) (hl : ∀ s ∈ noms ++ accs, s.2.length < 1000000) :
    CP Y F.schismalaw55_spells [.agg [syms noms, syms accs], .agg [I kk, lst di cs], lst di x] (B (spellsB noms accs kk cs x)) := by
  refine schismalaw55_spells_i ?_
  have l1 : lenV (syms noms) = some (I noms.length) := rfl
  have l2 : lenV (syms accs) = some (I accs.length) := rfl
  by_cases g1 : kk < 0
  · simp (disch := first | omega | (simp <;> omega) | fail) [schismalaw55_spells, l1, l2, g1]
    exact out_b (by simp [spellsB]; omega)
  by_cases g2 : (noms.length : Int) ≤ kk
  · simp (disch := first | omega | (simp <;> omega) | fail) [schismalaw55_spells, l1, l2, g1, g2]
    exact out_b (by simp [spellsB]; omega)
  by_cases g3 : cs.length = accs.length
  case neg =>
    simp (disch := first | omega | (simp <;> omega) | fail) [schismalaw55_spells, l1, l2, g1, g2, g3]
    exact out_b (by simp [spellsB, g3])
  have near1 := rowRight_ok (r := cs) (by omega)
  have near2 := rowRight_ok (r := x) (by omega)
  cases g4 : okRow cs with
  | false =>
    rw [g4] at near1
    simp (disch := first | omega | (simp <;> omega) | fail) [schismalaw55_spells, l1, l2, g1, g2, g3]
    refine cd near1 ?_
    simp (disch := first | omega | (simp <;> omega) | fail) []
    exact out_b (by simp [spellsB, g4])
  | true =>
    rw [g4] at near1
    simp (disch := first | omega | (simp <;> omega) | fail) [schismalaw55_spells, l1, l2, g1, g2, g3]
    refine cd near1 ?_
    simp (disch := first | omega | (simp <;> omega) | fail) []
    cases g5 : okRow x with
    | false =>
      rw [g5] at near2
      refine cd near2 ?_
      simp (disch := first | omega | (simp <;> omega) | fail) []
      exact out_b (by simp [spellsB, g5])
    | true =>
      rw [g5] at near2
      refine cd near2 ?_
      simp (disch := first | omega | (simp <;> omega) | fail) []
      refine toRow_any (by simp [underB, unders, under, lst, lstm]) (by omega) fun p7 x4 hp7 hp7n o4 => ?_
      have hs0 : nth ([], []) noms kk.toNat = nth ([], []) noms kk.toNat := rfl
      have hkn : kk.toNat < noms.length := by omega
      have e3 := fun h : Hp => ixm_nth sc sc_len noms h (k := .i64) (i := kk) (by omega) (by omega)
      have e4 := fun h : Hp => ldm_nth sc sc_len ([], []) noms h hkn
      generalize hs0 : nth ([], []) noms kk.toNat = s0 at e4
      have hli : ∀ h : Hp, lisR 1 [D.str [], D.pl (.slice none 0 0)] [(0, .agg ((sc s0).map .d))] h = some (sc s0, h) := fun h => by
        simp [lisR, repl, toDs, toD, fillP, cellsV, sc, row]
      simp (disch := first | omega | (simp <;> omega) | fail) [e3, e4, hli]
      refine ap_any ha fun p58 x5 x6 pp o5 o6 hlen hix => ?_
      simp (disch := first | omega | (simp <;> omega) | fail) [hlen]
      have hcol : ∀ q : List Sym, q.all (symOk x.length) = true → ∀ r ∈ q.map (·.2), r.length = x.length := fun q hq r hr => by
        simp only [List.mem_map] at hr
        obtain ⟨s, hs, rfl⟩ := hr
        have := List.all_eq_true.1 hq s hs
        simp only [symOk, Bool.and_eq_true, decide_eq_true_eq] at this
        exact this.1
      have hs0m : s0 ∈ noms := by rw [← hs0]; exact nth_mem hkn
      have hw : ∀ h : Hp, snap h (syms noms) = some (syms noms, h) := fun h => snap_lstm h sc noms
      refine lo (lsp_l0 (x0 := (1, .vars [syms noms, syms accs])) (x3 := (1, Bk.data 1 (List.replicate x.length (D.int IntKind.i64 0)) true false)) (x4 := x4) (x5 := x5) (x6 := x6) (L := s0 :: accs) (K := 1 :: cs) hp7 hxN rfl (by simp; omega) (by simp [g3]) rfl (by rw [okRow, List.all_cons]; simp only [okRow] at g4; rw [g4]; rfl) (fun s hs => ?_) hix rfl rfl o4 o5 o6 (List.replicate x.length 0) _ (s0 :: accs) [] (1 :: cs) [] (List.replicate x.length 0) rfl rfl rfl (by simp) (fun z hz => by rw [List.mem_replicate] at hz; rw [hz.2]; simp) (fun e hbd => ?_) (fun e h => ?_))
      · exact hl s (by rcases List.mem_cons.1 hs with rfl | h; exact List.mem_append_left _ hs0m; exact List.mem_append_right _ h)
      · simp only [exK_exit]
        have hsl : (sumGo (1 :: cs) ((s0 :: accs).map (·.2)) (List.replicate x.length 0)).length = x.length := by rw [sumGo_len _ _ _ (by simpa using hcol _ e)]; simp
        have hpure := spells_pure (noms := noms) (accs := accs) (k := kk.toNat) (cs := cs) (x := x) g3 (hcol _ (by rw [hs0]; exact e))
        rw [hs0] at hpure
        generalize sumGo (1 :: cs) ((s0 :: accs).map (·.2)) (List.replicate x.length 0) = sm at hbd hsl hpure ⊢
        have hct := containsSym_ok (g := F.schismalaw55_spells_F1) (cs := [.dptr [row x] 0]) (p := fun s => !symOk x.length s) (fun s => by simp [snaps, snap, row]) (by simp [snaps, snap]) noms (by omega) fun s hs => spellsF_ok x s (by omega) (hl s (List.mem_append_left _ hs))
        simp (disch := first | omega | (simp <;> omega) | fail) []
        refine cdz (ds := [syms noms, .fn F.schismalaw55_spells_F1 [] [.dptr [row x] 0]]) (h' := [(1, .vars [syms noms, syms accs]), (1, .vars [I kk, lst di cs]), (1, .none), (1, Bk.data 1 (List.replicate x.length (D.int IntKind.i64 0)) true false), sB x.length x4 sm, x5, x6, (0, .none)]) ?_ hct ?_
        · simp [snaps, snap, hget, dsOf, lst, row]
        have hpl : ∀ b, plainV (B b) = true := fun _ => rfl
        simp only [hpl, if_true]
        have ealn : (noms.any fun s => !symOk x.length s) = !(noms.all (symOk x.length)) := by
          rw [Bool.eq_iff_iff]; simp
        have eall : (noms ++ accs).all (symOk x.length) = noms.all (symOk x.length) := by
          rw [List.all_cons, Bool.and_eq_true] at e
          rw [List.all_append, e.2, Bool.and_true]
        cases g6 : noms.all (symOk x.length) with
        | false =>
          simp (disch := first | omega | (simp <;> omega) | fail) [ealn, g6]
          exact out_b (by simp only [spellsB, eall, g6, Bool.and_false, Bool.false_and])
        | true =>
          have hval : spellsB noms accs kk cs x = decide (sm = x) := by
            simp only [spellsB, g4, g5, eall, g6, hpure, Bool.and_true]
            simp [g3]
            intro; omega
          have hfr := fromRow_ok (zs := sm) (by omega) (fun z hz => big63 (M := (s0 :: accs).length) (by simp; omega) (hbd z hz))
          have tail : ∀ H : Hp, H[2]? = some (1, .vars [lst di x]) → (ext (.tup [if okRow sm = true then lst di sm else .d (.sl 0 []), B (okRow sm)]) 0 fun v51 =>
            ext (.tup [if okRow sm = true then lst di sm else .d (.sl 0 []), B (okRow sm)]) 1 fun v52 =>
              gd v52 true H (fun q => q v51 H) fun v53 h =>
                gd v52 true h (fun q => bnd (ld1 h (V.ptr 2 1 0 1)) fun v => q v h) fun v54 h =>
                  gd v52 true h (fun q => cal (CX Y).p h (V.fn F.slices_Equal_api_Row_int [] []) [v53, v54] q)
                    fun v55 h =>
                    bnd (pickV v52 v55 (V.d (D.bool false))) fun v56 => out (B (spellsB noms accs kk cs x)) v56 h) := by
            intro H hH
            have hld : ld1 H (.ptr 2 1 0 1) = some (lst di x) := by simp [ld1, hget, hH]
            by_cases hok : okRow sm = true
            · simp (disch := first | omega | (simp <;> omega) | fail) [hok, hld]
              refine cd (equalRow_ok (by omega) (by omega)) ?_
              simp (disch := first | omega | (simp <;> omega) | fail) []
              exact out_b (by rw [hval])
            · have hne : ¬ sm = x := fun e => hok (by rw [e]; exact g5)
              simp (disch := first | omega | (simp <;> omega) | fail) [hok]
              exact out_b (by rw [hval]; simpa using hne)
          simp (disch := first | omega | (simp <;> omega) | fail) [ealn, g6]
          by_cases hx0 : x.length = 0
          · have : sm = [] := List.eq_nil_of_length_eq_zero (by omega)
            subst this
            obtain rfl := hp7n hx0
            refine cd (args := [.d (.sl 0 [])]) hfr ?_ (by simp [snaps])
            exact tail _ rfl
          · obtain rfl : p7 = .ref 4 1 0 x.length x.length (x.length * 2) := by rcases hp7 with h | h; exact absurd h hx0; exact h
            have hcl := flat_len wc wc_len sm
            rw [hsl] at hcl
            refine cdz (ds := [lstm wc sm]) (h' := [(1, .vars [syms noms, syms accs]), (1, .vars [I kk, lst di cs]), (1, .vars [lst di x]), (1, Bk.data 1 (List.replicate x.length (D.int IntKind.i64 0)) true false), (1, .data 2 (sm.flatMap wc) false true), x5, x6, (0, .none)]) ?_ hfr ?_
            · simp only [snaps, snap, toD, sB, hx0, if_false, hget, List.getElem?_cons_succ, List.getElem?_cons_zero, if_true]
              rw [if_pos ⟨by omega, Nat.le_refl _, by omega⟩]
              simp [lstm, hsl]
              rw [List.take_of_length_le (by omega)]
            · have hpl2 : plainV (.tup [if okRow sm = true then lst di sm else .d (.sl 0 []), B (okRow sm)]) = false := by
                split <;> rfl
              rw [hpl2]
              exact tail _ rfl
      · simp only [exK_ret2, exK_ret]
        refine out_b ?_
        have : (noms ++ accs).all (symOk x.length) = false := by
          rw [Bool.eq_false_iff]
          intro h
          rw [List.all_append, Bool.and_eq_true] at h
          rw [List.all_cons, h.2, Bool.and_true] at e
          rw [List.all_eq_true.1 h.1 s0 hs0m] at e
          cases e
        simp only [spellsB, this, Bool.and_false, Bool.false_and]
end
end Go.Vm
