/- CheckerMembers: the law. -/
import Derived.Test.YtbdajblfnkoagaaGreatDoorQLawM
set_option linter.unusedVariables false
set_option linter.unusedSimpArgs false
namespace Go.Vm
open Go Go.Am Go.Big
theorem mem_out0 {ks : List Int} {m : List (List Int)} (hm : ∀ r ∈ m, r.length = 0) (hml : m.length ≤ 14) (v : V) (k : KL) (h h0 : Hp) (hh : h0.length = h.length) :
    ∀ (q a : List (List Int)), a ++ q = m → k (.exit 0) [] h → lp (schismalaw55_CheckerMembers_l0 (CX Y) (lst di ks) v (mat m) (I m.length)) [] h0 [I a.length] h k
  | [] => by
    intro a ha hk
    simp at ha
    subst ha
    refine lp_in ?_
    simp (disch := first | omega | (simp <;> omega) | fail) [schismalaw55_CheckerMembers_l0]
    exact hk
  | y :: q => by
    intro a ha hk
    have hal : a.length < m.length := by subst ha; simp
    have hy : nth [] m a.length = y := by subst ha; simp
    have hy0 : y = [] := List.eq_nil_of_length_eq_zero (hm y (by subst ha; simp))
    subst hy0
    refine lp_in ?_
    simp (disch := first | omega | (simp <;> omega) | fail) [schismalaw55_CheckerMembers_l0, hy]
    refine lo (lp_in ?_)
    simp (disch := first | omega | (simp <;> omega) | fail) [schismalaw55_CheckerMembers_l1, hh]
    have := mem_out0 (ks := ks) hm hml v k h h0 hh q (a ++ [[]]) (by simpa using ha) hk
    simpa using this
def memTail (m : List (List Int)) (ks x : List Int) : List V → Hp → Prop := fun l42 h =>
  cal (CX Y).p h (.fn F.checker_Member [] []) [mat m, lst di ks, lst di x] fun v44 h =>
  bnd (biB .eql v44 (ge l42 0)) fun v45 =>
  gd v45 true h (fun q => q (mat m) h) fun v46 h =>
  gd v45 true h (fun q => cal (CX Y).p h (.fn F.checker_Form [] []) [v46] q) fun v47 h =>
  gd v45 true h (fun q => q (mat m) h) fun v48 h =>
  gd v45 true h (fun q => cal (CX Y).p h (.fn F.schismalaw55_right [] []) [v48] q) fun v49 h =>
  gd v45 true h (fun q => q v49 h) fun v50 h =>
  gd v50 true h (fun q => q (mat m) h) fun v51 h =>
  gd v50 true h (fun q => cal (CX Y).p h (.fn F.schismaref07_IsForm [] []) [v51] q) fun v52 h =>
  gd v45 true h (fun q => bnd (pickV v50 v52 (.d (.bool false))) fun v => q v h) fun v53 h =>
  gd v45 true h (fun q => bnd (biB .eql v47 v53) fun v => q v h) fun v54 h =>
  bnd (pickV v45 v54 (.d (.bool false))) fun v55 =>
  out (B true) v55 h
theorem law_members_of (hkn : CP Y F.schismalaw55_known [] (B true)) (m : List (List Int)) (ks x : List Int) : CP Y F.schismalaw55_CheckerMembers [mat m, lst di ks, lst di x] (B true) := by
  refine schismalaw55_CheckerMembers_i ?_
  unfold schismalaw55_CheckerMembers
  simp (disch := first | omega | (simp <;> omega) | fail) []
  refine cd hkn ?_
  simp (disch := first | omega | (simp <;> omega) | fail) []
  refine cd few_ok ?_ (by simp [snaps, mat])
  by_cases h1 : fewB m = true
  rotate_left
  · simp (disch := first | omega | (simp <;> omega) | fail) [h1]
    refine cd hkn ?_
    simp (disch := first | omega | (simp <;> omega) | fail) []
  by_cases h2 : 14 < ks.length
  · simp (disch := first | omega | (simp <;> omega) | fail) [h1, h2]
    refine cd hkn ?_
    simp (disch := first | omega | (simp <;> omega) | fail) []
  by_cases h3 : 14 < x.length
  · simp (disch := first | omega | (simp <;> omega) | fail) [h1, h2, h3]
    refine cd hkn ?_
    simp (disch := first | omega | (simp <;> omega) | fail) []
  obtain ⟨f1, f2⟩ := fewB_len h1
  have hr := right_ok (m := m) (by omega) (fun r hr => by have := f2 r hr; omega)
  have hmem := member_ok (m := m) (ks := ks) (x := x) (by omega) (by omega) (fun r hr => by have := f2 r hr; omega) (by omega) (by omega)
  have hform := form_ok (m := m) (by omega) (fun r hr => by have := f2 r hr; omega)
  have main : ∀ (b : Bool) (h : Hp), b = memI m ks x → memTail m ks x [B b] h := by
    intro b h hb
    subst hb
    simp (disch := first | omega | (simp <;> omega) | fail) [memTail]
    refine cd hmem ?_ (by simp [snaps, mat])
    simp (disch := first | omega | (simp <;> omega) | fail) []
    refine cd hform ?_ (by simp [snaps, mat])
    simp (disch := first | omega | (simp <;> omega) | fail) []
    refine cd hr ?_ (by simp [snaps, mat])
    by_cases hm : okMat m = true
    · simp (disch := first | omega | (simp <;> omega) | fail) [hm]
      refine cd (isForm_ok hm) ?_ (by simp [snaps, mat])
      simp (disch := first | omega | (simp <;> omega) | fail) [formI, hm]
    · simp (disch := first | omega | (simp <;> omega) | fail) [hm, formI]
  simp (disch := first | omega | (simp <;> omega) | fail) [h1, h2, h3]
  refine cd hr ?_ (by simp [snaps, mat])
  by_cases hm : okMat m = true
  rotate_left
  · simp (disch := first | omega | (simp <;> omega) | fail) [hm]
    refine jo_in (k := memTail m ks x) ?_
    simp (disch := first | omega | (simp <;> omega) | fail) []
    exact main false _ (by simp [memI, hm])
  simp (disch := first | omega | (simp <;> omega) | fail) [hm]
  refine cd (rowRight_ok (r := ks) (by omega)) ?_
  by_cases hks : okRow ks = true
  rotate_left
  · simp (disch := first | omega | (simp <;> omega) | fail) [hm, hks]
    refine jo_in (k := memTail m ks x) ?_
    simp (disch := first | omega | (simp <;> omega) | fail) []
    exact main false _ (by simp [memI, hks])
  simp (disch := first | omega | (simp <;> omega) | fail) [hm, hks]
  refine cd (rowRight_ok (r := x) (by omega)) ?_
  by_cases hx : okRow x = true
  rotate_left
  · simp (disch := first | omega | (simp <;> omega) | fail) [hm, hks, hx]
    refine jo_in (k := memTail m ks x) ?_
    simp (disch := first | omega | (simp <;> omega) | fail) []
    exact main false _ (by simp [memI, hx])
  simp (disch := first | omega | (simp <;> omega) | fail) [hm, hks, hx]
  by_cases hl : ks.length = m.length
  rotate_left
  · simp (disch := first | omega | (simp <;> omega) | fail) [hm, hks, hx, hl]
    refine jo_in (k := memTail m ks x) ?_
    simp (disch := first | omega | (simp <;> omega) | fail) []
    exact main false _ (by simp [memI, hl])
  have hlT : (ks.length = m.length) = True := eq_true hl
  have hmem0 : memI m ks x = ((decide (m.length = 0) || decide (x.length = (m.headD []).length)) && (x.zipIdx.all fun e => decide (dotI ks (colI e.2 m) = e.1))) := by
    simp [memI, hm, hks, hx, hl]
  have hrows : (m.length = 0 ∨ x.length = (m.headD []).length) → ∀ r ∈ m, r.length = x.length := fun h r hr => by
    have := (okMat_row hm r hr).1
    rcases h with h | h
    · rw [List.eq_nil_of_length_eq_zero h] at hr; cases hr
    · omega
  have body : (m.length = 0 ∨ x.length = (m.headD []).length) → ∀ K : List V → Hp → Prop, (∀ h, K [B (memI m ks x)] h) → (
        bnd (lenV (lst di x)) fun v56 =>
        mkS 0 8 [.int .i64 0] [(0, .none), (0, .none)] v56 v56 fun v57 h =>
        cai (CX Y).i h (.fn F.schismaref07_ToRow [] []) [v57] 1 fun v58 h =>
        bnd (lenV (mat m)) fun v59 =>
        lp (schismalaw55_CheckerMembers_l0 (CX Y) (lst di ks) v58 (mat m) v59) [] h [(.d (.int .i64 0))] h (exK [((.exit 0), fun l60 h =>
          cal (CX Y).p h (.fn F.schismaref07_FromRow [] []) [v58] fun v61 h =>
          ext v61 0 fun v62 =>
          ext v61 1 fun v63 =>
          gd v63 true h (fun q => q v62 h) fun v64 h =>
          gd v63 true h (fun q => q (lst di x) h) fun v65 h =>
          gd v63 true h (fun q => cal (CX Y).p h (.fn F.slices_Equal_api_Row_int [] []) [v64, v65] q) fun v66 h =>
          bnd (pickV v63 v66 (.d (.bool false))) fun v67 =>
          K [v67] h)])) := by
    intro hrow K hK
    have hR := hrows hrow
    have hsm := sum_mem (m := m) (ks := ks) (x := x) hR hl
    have hmem1 : memI m ks x = decide (sumGo ks m (List.replicate x.length 0) = x) := by
      rw [hmem0]
      have : (decide (m.length = 0) || decide (x.length = (m.headD []).length)) = true := by simpa using hrow
      rw [this, Bool.true_and, Bool.eq_iff_iff, decide_eq_true_eq]
      exact hsm.symm
    simp (disch := first | omega | (simp <;> omega) | fail) []
    by_cases hx0 : x = []
    · subst hx0
      refine cai_of (toRow_nil (by simp [underB]) rfl) ?_ (by simp)
      simp (disch := first | omega | (simp <;> omega) | fail) []
      refine lo (mem_out0 (ks := ks) (by simpa using hR) f1 _ _ _ _ rfl m [] rfl ?_)
      simp (disch := first | omega | (simp <;> omega) | fail) []
      have hfr := fromRow_ok (zs := []) (by simp) (by simp)
      refine cd (args := [.d (.sl 0 [])]) hfr ?_ (by simp [snaps])
      simp (disch := first | omega | (simp <;> omega) | fail) []
      refine cd (args := [lst di [], lst di []]) (equalRow_ok (by simp) (by simp)) ?_ (by simp [snaps])
      simp (disch := first | omega | (simp <;> omega) | fail) []
      have e : sumGo ks m (List.replicate (List.length ([] : List Int)) 0) = [] := List.eq_nil_of_length_eq_zero (by rw [sumGo_len _ _ _ (by simpa using hR)]; simp)
      rw [e] at hmem1
      have := hK [(1, .data 1 [] true false), (0, .none)]
      rw [hmem1] at this
      simpa [show okRow [] = true from rfl] using this
    · have hxl := List.length_pos_iff.2 hx0
      have hs : (List.replicate x.length (D.int IntKind.i64 0)) = (List.replicate x.length (0 : Int)).map di := by simp [di]
      rw [hs]
      have htr := toRow_in (h := [(1, .data 1 ((List.replicate x.length (0 : Int)).map di) true false), (0, .none)]) (a := .ref 0 1 0 x.length x.length x.length) (r := List.replicate x.length 0) (by simp [underB]) (by simp; omega) (by simp [lenV]) (fun n hn => by rw [List.mem_replicate] at hn; omega)
        (fun y i hi => ⟨.ptr 0 1 i x.length, by
          simp only [List.length_replicate] at hi
          constructor
          · simp [ixV, hget]; omega
          · simp [ld1, hget, nth_eq, hi, di]⟩) (by intro e; have := congrArg List.length e; simp at this; exact hx0 this)
      simp only [List.length_replicate] at htr
      obtain ⟨N2, hN2⟩ : ∃ N2, N2 = ((List.replicate x.length (0 : Int)).flatMap wc).length := ⟨_, rfl⟩
      have hN2' := hN2
      rw [flat_len wc wc_len, List.length_replicate] at hN2'
      refine rh_in (cai_new (s := 1) (e := 0) (b := .none) htr rfl ?_)
      rw [← hN2]
      simp (disch := first | omega | (simp <;> omega) | fail) []
      refine lo (mem_out (b0 := (1, .data 1 (List.replicate x.length (di 0)) true false)) hks (fun r hr => ⟨hR r hr, (okMat_row hm r hr).2.2⟩) (by omega) hN2' f1 _ _ rfl m [] ks rfl rfl hl (List.replicate x.length 0) (by simp) (fun z hz => by rw [List.mem_replicate] at hz; rw [hz.2]; simp) fun hbd => ?_)
      have hsl : (sumGo ks m (List.replicate x.length 0)).length = x.length := by rw [sumGo_len _ _ _ (by simpa using hR)]; simp
      have hmem2 := hmem1
      generalize sumGo ks m (List.replicate x.length 0) = sm at *
      have hfr := fromRow_ok (zs := sm) (by omega) (fun z hz => big63 (M := m.length) (by omega) (hbd z hz))
      have hcl := flat_len wc wc_len sm
      simp (disch := first | omega | (simp <;> omega) | fail) []
      refine cdz (ds := [lstm wc sm]) (h' := [(1, .data 1 (List.replicate x.length (di 0)) true false), (1, .data 2 (sm.flatMap wc) false true)]) ?_ hfr ?_
      · rw [hsl] at hcl
        simp only [snaps, snap, toD, sH, hget, List.getElem?_cons_succ, List.getElem?_cons_zero, if_true]
        rw [if_pos ⟨by omega, Nat.le_refl _, by omega⟩]
        simp [lstm, hsl]
        rw [List.take_of_length_le (by omega)]
      · by_cases hok : okRow sm = true
        · simp (disch := first | omega | (simp <;> omega) | fail) [hok]
          refine cd (equalRow_ok (by omega) (by omega)) ?_
          simp (disch := first | omega | (simp <;> omega) | fail) []
          rw [← hmem2]
          exact hK _
        · have hne : ¬ sm = x := fun e => hok (by rw [e]; exact hx)
          have := hK
          rw [hmem2] at this
          simp (disch := first | omega | (simp <;> omega) | fail) [hok]
          simpa [hne] using this _
  by_cases h0 : m.length = 0
  · have hk0 : (ks = []) = True := eq_true (List.eq_nil_of_length_eq_zero (by omega))
    have hm0 : (m = []) = True := eq_true (List.eq_nil_of_length_eq_zero h0)
    simp (disch := first | omega | (simp <;> omega) | fail) [hm, hks, hx, hlT, hk0, hm0]
    refine jo_in (k := memTail m ks x) ?_
    rw [cnd_bool, if_pos rfl]
    exact body (.inl h0) (memTail m ks x) (fun h => main _ h rfl)
  · by_cases h4 : x.length = (m.headD []).length
    · have h4' : x.length = (nth [] m 0).length := by rw [nth_zero]; exact h4
      simp (disch := first | omega | (simp <;> omega) | fail) [hm, hks, hx, hlT, h0]
      refine jo_in (k := memTail m ks x) ?_
      rw [cnd_dec, if_pos h4']
      exact body (.inr h4) (memTail m ks x) (fun h => main _ h rfl)
    · have h4' : ¬ x.length = (nth [] m 0).length := by rw [nth_zero]; exact h4
      simp (disch := first | omega | (simp <;> omega) | fail) [hm, hks, hx, hlT, h0]
      refine jo_in (k := memTail m ks x) ?_
      rw [cnd_dec, if_neg h4']
      have e : decide (x.length = (nth [] m 0).length) = false := by simpa using h4'
      rw [e]
      refine main false _ ?_
      rw [hmem0]
      have e1 : decide (m.length = 0) = false := by simpa using h0
      have e2 : decide (x.length = (m.headD []).length) = false := by simpa using h4
      rw [e1, e2]
      rfl
end Go.Vm
