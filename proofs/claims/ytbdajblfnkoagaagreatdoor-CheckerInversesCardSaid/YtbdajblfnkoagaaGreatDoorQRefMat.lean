/- ref07: To, From, Product of matrices. -/
import Derived.Test.YtbdajblfnkoagaaGreatDoorQLawA
import Derived.Test.YtbdajblfnkoagaaGreatDoorQRefRow
import Derived.Test.YtbdajblfnkoagaaGreatDoorQWalk
set_option linter.unusedVariables false
set_option linter.unusedSimpArgs false
namespace Go.Vm
open Go Go.Am Go.Big
def wrow (r : List Int) : D := .sl r.length (r.flatMap wc)
@[simp] theorem norm_wrow (r : List Int) : norm (wrow r) = wrow r := id rfl
theorem toRow_row {h : Hp} (hu : (h.all fun x => underB h.length x.2) = true) {r : List Int} (hN : r.length < 1000000000) (hb : ∀ n ∈ r, -9223372036854775808 < n ∧ n < 9223372036854775808) (hne : r ≠ []) :
    CI Y F.schismaref07_ToRow [.d (row r)] h (.new 2 (r.flatMap wc) false r.length r.length) h :=
  toRow_in hu hN rfl hb (fun x i hi => ⟨.dptr (r.map di) i, ix_lst di r _ rfl hi, by rw [ld_row r _ hi]; rfl⟩) hne
theorem toRow_row0 {h : Hp} (hu : (h.all fun x => underB h.length x.2) = true) : CI Y F.schismaref07_ToRow [.d (row [])] h (.d (.sl 0 [])) h := toRow_nil hu rfl
theorem lisR_ref {h : Hp} {s e L n : Nat} {cs : List D} {ex fr : Bool} (hg : hget h s e = .data n cs ex fr) (hL : L * n = cs.length) : lisR 1 [.pl (.slice none 0 0)] [(0, .ref s e 0 L L cs.length)] h = some ([.sl L cs], hset h s e (.data n cs ex true)) := by
  simp [lisR, repl, toDs, toD, hg]
  rw [List.take_of_length_le (by omega)]
  simp [hL]
theorem lisR_d {h : Hp} {x : D} (hx : norm x = x) : lisR 1 [.pl (.slice none 0 0)] [(0, .d x)] h = some ([x], h) := by
  simp [lisR, repl, toDs, toD, hx]
def tmA : Acc := ⟨1, 0, 1, .none⟩
def tmH (l : List (List Int)) : Hp := [(0, .none), tmA.b l.length (l.map wrow)]
theorem toM_loop {m : List (List Int)} (hN : m.length < 1000000) (hl : ∀ r ∈ m, r.length < 1000000) (hb : ∀ r ∈ m, ∀ n ∈ r, -9223372036854775808 < n ∧ n < 9223372036854775808) (k : KL) : ∀ (q p : List (List Int)), p ++ q = m →
    k (.exit 0) [tmA.v m.length (m.map wrow)] (tmH m) →
    lp (schismaref07_To_l0 (CX Y) (mat m)) [0] [(0, .none), (0, .none)] [tmA.v p.length (p.map wrow), I p.length] (tmH p) k
  | [] => by
    intro p hp hk
    simp at hp
    subst hp
    refine lp_in ?_
    simp (disch := first | omega | (simp <;> omega) | fail) [schismaref07_To_l0]
    exact hk
  | r :: q => by
    intro p hp hk
    have hpl : p.length < m.length := by subst hp; simp
    have hr : nth [] m p.length = r := by subst hp; simp
    have hrl := hl r (by subst hp; simp)
    have hrb := hb r (by subst hp; simp)
    have ih := toM_loop hN hl hb k q (p ++ [r]) (by simpa using hp) hk
    have hu : ((tmH p).all fun x => underB (tmH p).length x.2) = true := by
      unfold tmH
      cases p with
      | nil => rfl
      | cons a t => rfl
    have hoS : ∀ L c, offS [0] (tmA.v L c) = true := fun L c => offS_acc _ _ _ _ rfl
    have hoB : ∀ L c, offB [0] (tmA.b L c).2 = true := fun L c => offB_acc _ _ _ _ rfl
    have fin : ∀ x : Nat × Bk, rh (apV false 1 1 24 (tmA.v p.length (p.map wrow)) (.d (.sl 1 [wrow r])) [x, tmA.b p.length (p.map wrow)]) (fun v h => bnd (biI .add (I p.length) (.d (.int .i64 1))) fun v8 => lpK [0] [(0, .none), (0, .none)] (fun l h => lp (schismaref07_To_l0 (CX Y) (mat m)) [0] [(0, .none), (0, .none)] l h k) k .normal [v, v8] h) .mk := by
      intro x
      refine acc_app tmA (k := 1) (cs := [wrow r]) (by omega) (by rfl) (by simp [tmA]) rfl rfl (by simp) (by omega) (by simp [tmA]) ?_
      simp (disch := first | omega | (simp <;> omega) | fail) [show tmA.s = 1 from rfl, clean, offSs, hoS, hoB, offS_int, offH_cons, offH, offB_none, offB, reset_cons, reset_end, notIn_nil, notIn_cons, beq_lit]
      simpa [tmH, Acc.v, Acc.b, tmA, offS, notIn, beq_lit] using ih
    refine lp_in ?_
    simp (disch := first | omega | (simp <;> omega) | fail) [schismaref07_To_l0, hr]
    by_cases h0 : r = []
    · subst h0
      refine rh_in (cai_of (toRow_row0 hu) ?_ (by simp))
      have hf := fin (0, .none)
      simp (disch := first | omega | (simp <;> omega) | fail) [lisR_d (show norm (D.sl 0 []) = .sl 0 [] from rfl), tmH]
      simp (disch := first | omega | (simp <;> omega) | fail) [] at hf
      exact hf
    · refine rh_in (cai_new (s := 0) (e := 0) (b := .none) (toRow_row hu (by omega) hrb h0) rfl ?_)
      have hfl := flat_len wc wc_len r
      have hf := fin (1, .data 2 (r.flatMap wc) false true)
      have hw : wrow r = .sl r.length (r.flatMap wc) := rfl
      generalize r.flatMap wc = cs at *
      have hls := lisR_ref (h := [(1, .data 2 cs false false), tmA.b p.length (p.map wrow)]) (s := 0) (e := 1) (L := r.length) (n := 2) (cs := cs) (ex := false) (fr := false) rfl (by omega)
      rw [hw] at hf
      simp (disch := first | omega | (simp <;> omega) | fail) [tmH, hls]
      simp (disch := first | omega | (simp <;> omega) | fail) [] at hf
      exact hf
theorem toM_ok {m : List (List Int)} (hN : m.length < 1000000) (hl : ∀ r ∈ m, r.length < 1000000) (hb : ∀ r ∈ m, ∀ n ∈ r, -9223372036854775808 < n ∧ n < 9223372036854775808) : CP Y F.schismaref07_To [mat m] (lst wrow m) := by
  refine schismaref07_To_i ?_
  unfold schismaref07_To
  refine toM_loop hN hl hb _ m [] rfl ?_
  simp (disch := first | omega | (simp <;> omega) | fail) []
  exact acc_out tmA (h := tmH m) (L := m.length) (cells := m.map wrow) rfl (by simp [tmA])
def fmA : Acc := ⟨0, 0, 1, .none⟩
theorem fromM_loop {zs : List (List Int)} (hN : zs.length < 1000000) (hl : ∀ r ∈ zs, r.length < 1000000) (hb : ∀ r ∈ zs, ∀ z ∈ r, z.natAbs < 10 ^ 63) (k : KL) (h0 : Hp) (hh : h0.length = 1) : ∀ (q p : List (List Int)), p ++ q = zs →
    (q.all okRow = true → k (.exit 0) [fmA.v zs.length (zs.map row)] [fmA.b zs.length (zs.map row)]) → (q.all okRow = false → ∀ h, k .ret [.d (.pl (.slice none 0 0)), B false] h) →
    lp (schismaref07_From_l0 (CX Y) (lst wrow zs)) [] h0 [fmA.v p.length (p.map row), I p.length] [fmA.b p.length (p.map row)] k
  | [] => by
    intro p hp h1 h2
    simp at hp
    subst hp
    refine lp_in ?_
    simp (disch := first | omega | (simp <;> omega) | fail) [schismaref07_From_l0]
    exact h1 rfl
  | r :: q => by
    intro p hp h1 h2
    have hpl : p.length < zs.length := by subst hp; simp
    have hr : nth [] zs p.length = r := by subst hp; simp
    have hrl := hl r (by subst hp; simp)
    have hrb := hb r (by subst hp; simp)
    have ih := fromM_loop hN hl hb k h0 hh q (p ++ [r]) (by simpa using hp)
    have eI : ∀ h : Hp, ixV h 1 (lst wrow zs) (.d (.int .i64 (p.length : Int))) = some (.dptr (zs.map wrow) p.length) := fun h => ix_lst wrow _ h rfl hpl
    have eL : ∀ h : Hp, ld1 h (.dptr (zs.map wrow) p.length) = some (lstm wc r) := fun h => by
      have := ld_nth wrow [] zs h hpl
      rw [hr] at this
      exact this
    have hfr := fromRow_ok (zs := r) (by omega) hrb
    simp only [List.all_cons] at h1 h2
    refine lp_in ?_
    simp (disch := first | omega | (simp <;> omega) | fail) [schismaref07_From_l0, eI, eL]
    refine cd hfr ?_
    by_cases g : okRow r = true
    · rw [g] at h1 h2
      simp only [Bool.true_and] at h1 h2
      have := ih h1 h2
      simp (disch := first | omega | (simp <;> omega) | fail) [g]
      rw [lst_row, lisR_d (norm_row r)]
      simp (disch := first | omega | (simp <;> omega) | fail) []
      refine acc_app fmA (k := 1) (cs := [row r]) (by omega) (by rfl) (by simp [fmA]) rfl rfl (by simp) (by omega) (by simp [fmA]) ?_
      simp (disch := first | omega | (simp <;> omega) | fail) [show fmA.s = 0 from rfl, hh]
      simpa [fmA, Acc.v, Acc.b] using this
    · have g' : okRow r = false := by simpa using g
      rw [g'] at h2
      simp (disch := first | omega | (simp <;> omega) | fail) [g']
      exact h2 rfl _
theorem fromM_ok {zs : List (List Int)} (hN : zs.length < 1000000) (hl : ∀ r ∈ zs, r.length < 1000000) (hb : ∀ r ∈ zs, ∀ z ∈ r, z.natAbs < 10 ^ 63) : CP Y F.schismaref07_From [lst wrow zs] (.tup [if zs.all okRow = true then mat zs else .d (.sl 0 []), B (zs.all okRow)]) := by
  refine schismaref07_From_i ?_
  unfold schismaref07_From
  refine fromM_loop hN hl hb _ _ rfl zs [] rfl (fun g => ?_) (fun g h => ?_)
  · rw [g]
    simp (disch := first | omega | (simp <;> omega) | fail) []
    obtain ⟨h', e1, _⟩ := acc_snap fmA (L := zs.length) (cells := zs.map row) (h := [fmA.b zs.length (zs.map row)]) rfl (by simp [fmA])
    exact ⟨h', by simp [snap, snaps, e1, mat, lst]⟩
  · rw [g]
    simp (disch := first | omega | (simp <;> omega) | fail) []
    exact out_sn (by simp [snap, snaps])
end Go.Vm
