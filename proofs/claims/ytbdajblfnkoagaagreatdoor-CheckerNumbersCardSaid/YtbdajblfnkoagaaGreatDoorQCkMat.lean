/- Matrices of the checker. -/
import Derived.Test.YtbdajblfnkoagaaGreatDoorQCkInt
import Derived.Test.YtbdajblfnkoagaaGreatDoorQLibSl
set_option linter.unusedVariables false
set_option linter.unusedSimpArgs false
namespace Go.Vm
open Go Go.Am Go.Big
def okEnt (n:Int):Bool:=decide (-1000000000≤n∧n≤1000000000)
def okRow (r:List Int):Bool:=r.all okEnt
def okMat (m:List (List Int)):Bool:=decide (m.length≤12) && m.all fun r=>decide (r.length=(m.headD []).length) && decide (r.length≤12) && okRow r
theorem nearF_ok (n:Int):CP Y F.checker_near_F1 [I n] (B (!okEnt n)):=by
 refine checker_near_F1_i ?_
 simp (disch:=first|omega|simp<;>omega|fail)[checker_near_F1]
 refine br_in (fun h=>?_) (fun h=>?_) <;> try simp (disch:=first|omega|simp<;>omega|fail)[h]
 all_goals exact out_b (by rw [Bool.eq_iff_iff]; simp [okEnt]; omega)
theorem near_ok (r:List Int) (hr:r.length < 4611686018427387904):CP Y F.checker_near [lst di r] (B (okRow r)):=by
 refine checker_near_i ?_
 simp (disch:=first|omega|simp<;>omega|fail)[checker_near]
 refine cd (containsRow_ok r hr fun n _=>nearF_ok n) ?_
 simp (disch:=first|omega|simp<;>omega|fail)[]
 have e:okRow r = !(r.any fun n=>!okEnt n):=by simp [okRow,List.not_any_eq_all_not]
 rw [e]; exact out_bool ..
theorem matrix_loop (m0:List Int) (M:List (List Int)) (k:KL):∀ (q a:List (List Int)),(a++q).length < 4611686018427387904→(∀ r ∈ q,r.length < 4611686018427387904)→m0.length < 4611686018427387904 →
  ((q.all fun r=>decide (r.length=m0.length) && decide (r.length≤12) && okRow r)=true→k (.exit 0) [] []) →
  ((q.all fun r=>decide (r.length=m0.length) && decide (r.length≤12) && okRow r)=false→k .ret [B false] []) →
  lp (checker_matrix_l0 (CX Y) (lst row (m0 :: M)) (lst row (a++q)) (I (a++q).length)) [] [] [I a.length] [] k
 | [],a,hN,_,_,h0,_=>by
  refine lp_in ?_
  simp (disch:=first|omega|simp<;>omega|fail)[checker_matrix_l0]
  exact h0 rfl
 | r :: q,a,hN,hr,hm,h0,h1=>by
  simp at hN hr
  refine lp_in ?_
  simp (disch:=first|omega|simp<;>omega|fail)[checker_matrix_l0]
  refine br_in (fun h=>?_) (fun h=>?_) <;> try simp (disch:=first|omega|simp<;>omega|fail)[h]
  ·refine br_in (fun h2=>?_) (fun h2=>?_) <;> try simp (disch:=first|omega|simp<;>omega|fail)[h2]
   ·refine cd (near_ok r hr.1) ?_
    simp (disch:=first|omega|simp<;>omega|fail)[h]
    by_cases h3:okRow r=true <;> simp (disch:=first|omega|simp<;>omega|fail)[h3]
    ·have:=matrix_loop m0 M k q (a++[r]) (by simp; omega) hr.2 hm (fun e=>h0 ?_) (fun e=>h1 ?_)
     ·simpa using this
     ·have g1:r.length=m0.length:=by omega
      have g2:r.length≤12:=by omega
      simpa [g1,h3,g1 ▸ g2] using e
     ·have g1:r.length=m0.length:=by omega
      have g2:r.length≤12:=by omega
      simpa [g1,h3,g1 ▸ g2] using e
    ·exact h1 (by simp [h3])
   ·have g2:¬ r.length≤12:=by omega
    exact h1 (by simp [g2])
  ·have g1:¬ r.length=m0.length:=by omega
   exact h1 (by simp [g1])
theorem matrix_ok (m:List (List Int)) (hm:m.length < 4611686018427387904) (hr:∀ r ∈ m,r.length < 4611686018427387904):CP Y F.checker_matrix [mat m] (B (okMat m)):=by
 refine checker_matrix_i ?_
 simp (disch:=first|omega|simp<;>omega|fail)[checker_matrix,mat]
 refine br_in (fun h=>?_) (fun h=>?_) <;> try simp (disch:=first|omega|simp<;>omega|fail)[h]
 ·have g:¬ m.length≤12:=by omega
  exact out_b (by simp [okMat,g])
 ·have g:m.length≤12:=by omega
  cases m with
  | nil =>
   refine lo (lp_in ?_)
   simp (disch:=first|omega|simp<;>omega|fail)[checker_matrix_l0]
   exact out_b rfl
  | cons m0 M =>
   have e0:okMat (m0 :: M)=(decide ((m0 :: M).length≤12) && (m0 :: M).all fun r=>decide (r.length=m0.length) && decide (r.length≤12) && okRow r):=rfl
   refine lo (matrix_loop m0 M _ (m0 :: M) [] hm hr (hr _ (by simp)) (fun e=>?_) (fun e=>?_))
   ·simp only [exK_exit]
    exact out_b (by rw [e0,e]; simpa using g)
   ·simp only [exK_ret2,exK_ret]
    exact out_b (by rw [e0,e,Bool.and_false])
def dotI:List Int→List Int→Int
 | a :: l,b :: m=>a * b+dotI l m
 | _,_=>0
theorem fits_of {z:Int} {k:Nat} (hk:k < 2 ^ 40) (h:z.natAbs < W ^ k):fits z:=Nat.lt_of_le_of_lt (len_le h) hk
theorem fits_small {z:Int} (h1 : -1000000000000000000000000≤z) (h2:z≤1000000000000000000000000):fits z:=fits_of (k:=3) (by decide) (by simp only [W]; omega)
theorem okEnt_iff {n:Int}:okEnt n=true↔-1000000000≤n∧n≤1000000000:=by simp [okEnt]
theorem mul_ent {a b:Int} (ha:okEnt a=true) (hb:okEnt b=true) : -1000000000000000000≤a * b∧a * b≤1000000000000000000:=by
 rw [okEnt_iff] at ha hb
 have h1:=Nat.mul_le_mul (show a.natAbs≤1000000000 by omega) (show b.natAbs≤1000000000 by omega)
 rw [← Int.natAbs_mul] at h1
 simp only [Nat.reduceMul] at h1
 omega
theorem dot_loop (k : KL) (b0 : Nat × Bk) (h0 : Hp) (hh : h0.length = 2) : ∀ (q : List Int), ∀ (r a b : List Int) (s : Int) (n : Bool) (d : D), (a ++ q).length ≤ 1000 → a.length = b.length → q.length ≤ r.length → (∀ n ∈ q, okEnt n = true) → (∀ n ∈ r, okEnt n = true) →
    (-(a.length * 1000000000000000000 : Int) ≤ s ∧ s ≤ a.length * 1000000000000000000) → n = decide (s < 0) → norm d = natD s.natAbs →
    (∀ n d, n = decide (s + dotI q r < 0) → norm d = natD (s + dotI q r).natAbs → k (.exit 0) [] [b0, (1, .vars [.d (.bool n), .d d])]) →
    lp (checker_dot_l0 (CX Y) (lst di (b ++ r)) (.ptr 1 1 0 2) (lst di (a ++ q)) (I (a ++ q).length)) [] h0 [I a.length] [b0, (1, .vars [.d (.bool n), .d d])] k
  | [] => by
    intro r a b s n d hN hl hr _ _ hs hn hd hk
    refine lp_in ?_
    simp (disch := first | omega | (simp <;> omega) | fail) [checker_dot_l0]
    exact hk n d (by simp [hn, dotI]) (by simp [hd, dotI])
  | x :: q => by
    intro r a b s n d hN hl hr hx hy hs hn hd hk
    cases r with
    | nil => simp at hr
    | cons y r =>
    simp at hN hl hr hx hy
    refine lp_in ?_
    simp (disch := first | omega | (simp <;> omega) | fail) [checker_dot_l0]
    have hx1 := okEnt_iff.1 hx.1
    have hy1 := okEnt_iff.1 hy.1
    have hm := mul_ent hx.1 hy.1
    refine cd (number_ok (by omega)) ?_
    simp (disch := first | omega | (simp <;> omega) | fail) [hl]
    refine cd (number_ok (by omega)) ?_
    simp (disch := first | omega | (simp <;> omega) | fail) []
    refine cd (times_ok (fits_small (by omega) (by omega)) (fits_small (by omega) (by omega))) ?_
    simp (disch := first | omega | (simp <;> omega) | fail) []
    refine cdx (ds := [intV s, intV (x * y)]) (by simp [snaps, snap, hd, hn, intV, intL]) (add_ok (a := s) (fits_small (by omega) (by omega)) (fits_small (by omega) (by omega))) ?_
    simp (disch := first | omega | (simp <;> omega) | fail) [intV, intL]
    have := dot_loop k b0 h0 hh q r (a ++ [x]) (b ++ [y]) (s + x * y) _ (natD (s + x * y).natAbs) (by simp; omega) (by simp [hl]) hr hx.2 hy.2 (by simp; omega) rfl rfl
      (by have e : s + dotI (x :: q) (y :: r) = s + x * y + dotI q r := by simp [dotI, Int.add_assoc]
          rw [e] at hk; exact hk)
    simpa [hl, hh] using this
theorem dot_ok {a b:List Int} (hN:a.length≤1000) (hl:a.length≤b.length) (ha:okRow a=true) (hb:okRow b=true):CP Y F.checker_dot [lst di a,lst di b] (intV (dotI a b)):=by
 simp only [okRow,List.all_eq_true] at ha hb
 refine checker_dot_i ?_
 simp (disch:=first|omega|simp<;>omega|fail)[checker_dot]
 refine lo (dot_loop _ _ _ rfl a b [] [] 0 _ _ (by simpa using hN) rfl hl ha hb (by simp) (by simp) (by simp [natD_zero]) fun n d hn hd=>?_)
 simp (disch:=first|omega|simp<;>omega|fail)[]
 exact ⟨_,by simp [snap,snaps,intV,intL] at hn hd ⊢; exact ⟨⟨hn,hd⟩,rfl⟩⟩
def colI (c:Nat) (m:List (List Int)):List Int:=m.map fun r=>nth 0 r c
theorem column_loop (c:Nat) (e:Nat) (b0:Bk) (h0:Hp) (hh:h0.length=1) (k:KL):∀ (q:List (List Int)),∀ (a:List (List Int)) (done:List Int),(a++q).length≤1000→(∀ r ∈ q,c < r.length)→done.length=a.length →
  (k (.exit 0) [Acc.v ⟨0,e,1,b0⟩ (a++q).length ((done++colI c q).map di)] [Acc.b ⟨0,e,1,b0⟩ (a++q).length ((done++colI c q).map di)]) →
  lp (checker_column_l0 (CX Y) (I c) (lst row (a++q)) (I (a++q).length)) [] h0 [Acc.v ⟨0,e,1,b0⟩ a.length (done.map di),I a.length] [Acc.b ⟨0,e,1,b0⟩ a.length (done.map di)] k
 | []=>by
  intro a done hN hc hd hk
  refine lp_in ?_
  simp (disch:=first|omega|simp<;>omega|fail)[checker_column_l0]
  simpa [colI] using hk
 | r :: q=>by
  intro a done hN hc hd hk
  simp at hN hc
  refine lp_in ?_
  simp (disch:=first|omega|simp<;>omega|fail)[checker_column_l0]
  simp only [lisR,repl]
  simp (disch:=first|omega|simp<;>omega|fail)[toDs,toD]
  refine acc_app ⟨0,e,1,b0⟩ (k:=1) (cs:=[di (nth 0 r c)]) (by omega) (by simp) (by simp [hd]) (by simp) rfl (by simp) (by omega) (by simp) ?_
  simp (disch:=first|omega|simp<;>omega|fail)[]
  have:=column_loop c e b0 h0 hh k q (a++[r]) (done++[nth 0 r c]) (by simp; omega) hc.2 (by simp [hd]) (by simpa [colI] using hk)
  simpa [hh] using this
theorem column_ok {c:Nat} {m:List (List Int)} (hN:m.length≤1000) (hc:∀ r ∈ m,c < r.length):CP Y F.checker_column [mat m,I c] (lst di (colI c m)):=by
 refine checker_column_i ?_
 simp (disch:=first|omega|simp<;>omega|fail)[checker_column,mat]
 refine lo (column_loop c 0 .none _ rfl _ m [] [] hN hc rfl ?_)
 simp (disch:=first|omega|simp<;>omega|fail)[]
 have:=acc_out ⟨0,0,1,.none⟩ (L:=m.length) (cells:=(colI c m).map di) (h:=[Acc.b ⟨0,0,1,.none⟩ m.length ((colI c m).map di)]) rfl (by simp [colI])
 simpa [lst,colI] using this
def memI (m:List (List Int)) (k x:List Int):Bool:=okMat m && decide (k.length=m.length) && (decide (m.length=0) || decide (x.length=(m.headD []).length)) && okRow k && okRow x && (x.zipIdx.all fun e=>decide (dotI k (colI e.2 m)=e.1))
theorem okMat_row {m:List (List Int)} (hm:okMat m=true) (r:List Int) (hr:r ∈ m):r.length=(m.headD []).length∧r.length≤12∧okRow r=true:=by
 simp only [okMat,Bool.and_eq_true,List.all_eq_true,decide_eq_true_eq] at hm
 exact ⟨(hm.2 r hr).1.1,(hm.2 r hr).1.2,(hm.2 r hr).2⟩
theorem okMat_hd {m:List (List Int)} (hm:okMat m=true) (h0:0 < m.length):(m.headD []).length≤12:=by
 cases m with
 | nil=>simp at h0
 | cons r m=>exact (okMat_row hm r (by simp)).2.1
theorem nth_mem {α:Type} {d:α} {l:List α} {i:Nat} (h:i < l.length):nth d l i ∈ l:=by rw [nth_eq d l i h]; exact List.getElem_mem h
theorem col_ok {m:List (List Int)} {c:Nat} (hm:okMat m=true) (hc:∀ r ∈ m,c < r.length):okRow (colI c m)=true:=by
 simp only [okMat,Bool.and_eq_true,List.all_eq_true] at hm
 simp only [okRow,List.all_eq_true,colI,List.mem_map]
 rintro _ ⟨r,hr,rfl⟩
 have:=(hm.2 r hr).2
 simp only [okRow,List.all_eq_true] at this
 exact this _ (nth_mem (hc r hr))
theorem dotI_le:∀ (k l:List Int),k.length≤1000→okRow k=true→okRow l=true→-(k.length * 1000000000000000000:Int)≤dotI k l∧dotI k l≤k.length * 1000000000000000000
 | [],_,_,_,_=>by simp [dotI]
 | a :: k,[],_,_,_=>by simp [dotI]; omega
 | a :: k,b :: l,hN,ha,hb=>by
  simp [okRow] at ha hb hN
  have:=dotI_le k l (by omega) (by simp [okRow]; exact ha.2) (by simp [okRow]; exact hb.2)
  have:=mul_ent ha.1 hb.1
  simp [dotI]; omega
theorem member_loop (m:List (List Int)) (ks:List Int) (hm:okMat m=true) (hk:okRow ks=true) (hkm:ks.length=m.length) (k:KL):∀ (q:List Int),∀ (a:List Int),(∀ r ∈ m,(a++q).length=r.length)→(a++q).length≤1000000→okRow q=true →
  ((q.zipIdx a.length).all (fun e=>decide (dotI ks (colI e.2 m)=e.1))=true→k (.exit 0) [] []) →
  ((q.zipIdx a.length).all (fun e=>decide (dotI ks (colI e.2 m)=e.1))=false→k .ret [B false] []) →
  lp (checker_Member_l0 (CX Y) (mat m) (lst di ks) (lst di (a++q)) (I (a++q).length)) [] [] [I a.length] [] k
 | []=>by
  intro a hr hN hq h0 h1
  refine lp_in ?_
  simp (disch:=first|omega|simp<;>omega|fail)[checker_Member_l0]
  exact h0 rfl
 | x :: q=>by
  intro a hr hN hq h0 h1
  simp at hN
  simp only [okRow,List.all_cons,Bool.and_eq_true] at hq
  have hl:m.length≤12:=by simp [okMat] at hm; exact hm.1
  have hc:∀ r ∈ m,a.length < r.length:=fun r hm=>by have:=hr r hm; simp at this; omega
  have hx:=okEnt_iff.1 hq.1
  have hd:=dotI_le ks (colI a.length m) (by omega) hk (col_ok hm hc)
  refine lp_in ?_
  simp (disch:=first|omega|simp<;>omega|fail)[checker_Member_l0]
  refine cd (column_ok (by omega) hc) ?_ (by simp [snaps,mat])
  simp (disch:=first|omega|simp<;>omega|fail)[]
  refine cd (dot_ok (by omega) (by simp [colI,hkm]) hk (col_ok hm hc)) ?_
  simp (disch:=first|omega|simp<;>omega|fail)[]
  refine cd (number_ok (by omega)) ?_
  simp (disch:=first|omega|simp<;>omega|fail)[]
  refine cd (equal_ok (fits_small (by omega) (by omega)) (fits_small (by omega) (by omega))) ?_
  simp (disch:=first|omega|simp<;>omega|fail)[]
  refine br_in (fun h=>?_) (fun h=>?_) <;> try simp (disch:=first|omega|simp<;>omega|fail)[h]
  ·exact h1 (by simp [h])
  ·have e:dotI ks (colI a.length m)=x:=by simpa using h
   have:=member_loop m ks hm hk hkm k q (a++[x]) (by simpa using hr) (by simp; omega) hq.2 (fun g=>h0 ?_) (fun g=>h1 ?_)
   ·simpa using this
   ·simpa [e] using g
   ·simpa [e] using g
theorem member_ok {m:List (List Int)} {ks x:List Int} (hxl:x.length≤1000000) (hN:m.length < 4611686018427387904) (hr:∀ r ∈ m,r.length < 4611686018427387904) (hk:ks.length < 4611686018427387904) (hx:x.length < 4611686018427387904) :
  CP Y F.checker_Member [mat m,lst di ks,lst di x] (B (memI m ks x)):=by
 refine checker_Member_i ?_
 simp (disch:=first|omega|simp<;>omega|fail)[checker_Member]
 refine cd (matrix_ok m hN hr) ?_ (by simp [snaps,mat])
 simp (disch:=first|omega|simp<;>omega|fail)[]
 repeat' (first | (refine br_in (fun h=>?_) (fun h=>?_) <;> try simp (disch:=first|omega|simp<;>omega|fail)[*]) | (refine cd (near_ok _ (by assumption)) ?_; simp (disch:=first|omega|simp<;>omega|fail)[*]))
 all_goals try simp only [nth_zero] at *
 all_goals first
  | (refine out_b ?_; simp [memI, *]; done)
  | (refine out_b ?_; simp [memI, *]; omega)
  | skip
 ·rename_i hm hkm h0 hk1 hx1
  rw [← h]
  refine lo (member_loop m ks hm hk1 hkm _ x [] (fun r hr=>?_) ?_ (by simpa using hx1) (fun g=>?_) (fun g=>?_))
  ·have:=(okMat_row hm r hr).1; simp; omega
  ·simp; simp [okMat] at hm; have:=okMat_hd (m:=m) (by simpa [okMat] using hm) h0; omega
  ·refine out_b ?_
   simp [memI, *] at g ⊢; exact g
  ·refine out_b ?_
   simp only [memI,List.length_nil] at g ⊢; rw [g,Bool.and_false]
 ·rename_i hm hkm h0
  refine out_b ?_
  have h1:¬ m.length=0:=by omega
  simp only [memI,h,h1]; simp
 ·rename_i hm hkm h0 hk1
  have hx1:=h
  have e:m=[]:=List.eq_nil_of_length_eq_zero (by omega)
  subst e
  refine lo (member_loop [] ks hm hk1 hkm _ x [] (fun r hr=>by cases hr) ?_ (by simpa using hx1) (fun g=>?_) (fun g=>?_))
  ·simpa using hxl
  ·refine out_b ?_
   simp [memI, *] at g ⊢; exact g
  ·refine out_b ?_
   simp only [memI,List.length_nil] at g ⊢; rw [g,Bool.and_false]
end Go.Vm
