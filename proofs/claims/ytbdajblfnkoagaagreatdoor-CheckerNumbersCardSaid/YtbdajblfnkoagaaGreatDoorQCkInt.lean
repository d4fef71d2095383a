/- Integers of the checker. -/
import Derived.Test.YtbdajblfnkoagaaGreatDoorQCkNat
import Derived.Test.YtbdajblfnkoagaaGreatDoorQT
import Derived.Test.YtbdajblfnkoagaaGreatDoorQVmSx
set_option linter.unusedVariables false
set_option linter.unusedSimpArgs false
namespace Go.Vm
open Go Go.Am Go.Big
def natD (n:Nat):D:=.sl (len n) ((dig W n).map u32)
theorem nat_natD (n:Nat):nat n=.d (natD n):=rfl
@[simp] theorem norm_natD (n:Nat):norm (natD n)=natD n:=rfl
@[simp] theorem snap_nat (h:Hp) (n:Nat):snap h (nat n)=some (nat n,h):=snap_lst ..
@[simp] theorem lenV_natD (n:Nat):lenV (.d (natD n))=some (I (len n)):=rfl
def intL (z:Int):List V:=[.d (.bool (decide (z < 0))),.d (natD z.natAbs)]
def intV (z:Int):V:=.agg (intL z)
@[simp] theorem snap_intV (h:Hp) (z:Int):snap h (intV z)=some (intV z,h):=by simp [intV,intL,snap,snaps]
theorem len_zero:len 0=0:=by simp [len,dig,digF]
theorem len_pos {n:Nat}:0 < len n↔0 < n:=by
 constructor
 ·intro h; rcases Nat.eq_zero_or_pos n with e | e
  ·subst e; simp [len_zero] at h
  ·exact e
 ·intro h
  rcases Nat.eq_zero_or_pos (len n) with e | e
  ·have:n < W ^ (dig W n).length:=(dig_len two_le_W).1 (Nat.le_refl _)
   unfold len at e; rw [e] at this; simp at this; omega
  ·exact e
theorem natD_zero:natD 0=.sl 0 []:=by simp [natD,len,dig,digF]
theorem intV_eq {z:Int} {b:Bool} {n:Nat} (hn:z.natAbs=n) (hb:b=decide (z < 0)):intV z=.agg [.d (.bool b),.d (natD n)]:=by subst hn; subst hb; rfl
theorem out_int2 {b b':Bool} {n n':Nat} {h:Hp} (hn:n'=n) (hb:b=b'):out (.agg [.d (.bool b'),.d (natD n')]) (.agg [.d (.bool b),.d (natD n)]) h:=by
 subst hn; subst hb; exact ⟨h,by simp [snap,snaps]⟩
theorem cmp_one {a b:Nat}:cmp a b=1↔b < a:=by unfold cmp; split <;> (try split) <;> simp <;> omega
theorem cmp_neg {a b:Nat}:cmp a b = -1↔a < b:=by unfold cmp; split <;> (try split) <;> simp <;> omega
theorem cmp_zero {a b:Nat}:cmp a b=0↔a=b:=by unfold cmp; split <;> (try split) <;> simp <;> omega
theorem wrap_neg {n:Int} (h : -9223372036854775808≤n∧n < 0):IntKind.wrap .u64 (IntKind.wrap .i64 (-n))=(n.natAbs:Int):=by
 have e1:(2:Int) ^ 64=18446744073709551616:=by decide
 have e2:(2:Int) ^ (64 - 1)=9223372036854775808:=by decide
 simp only [IntKind.wrap,IntKind.bits,IntKind.signed,e1,e2,Bool.true_and,Bool.false_and,decide_eq_true_eq]
 simp only [Bool.false_eq_true,if_false]
 split <;> omega
theorem number_ok {n:Int} (h : -9223372036854775808≤n∧n≤9223372036854775807):CP Y F.checker_number [I n] (intV n):=by
 refine checker_number_i ?_
 simp (disch:=first|omega|simp<;>omega|fail)[checker_number]
 refine br_in (fun hn=>?_) (fun hn=>?_)
 ·have e:=wrap_neg ⟨h.1,hn⟩
  simp (disch:=first|omega|simp<;>omega|fail)[e]
  refine cd (of_ok (by omega)) ?_
  simp (disch:=first|omega|simp<;>omega|fail)[nat_natD]
  exact out_int2 rfl (by simp [hn])
 ·have e:IntKind.wrap .u64 n=(n.natAbs:Int):=by rw [wrap_u64 (by omega)]; omega
  simp (disch:=first|omega|simp<;>omega|fail)[e]
  refine cd (of_ok (by omega)) ?_
  simp (disch:=first|omega|simp<;>omega|fail)[nat_natD]
  exact out_int2 rfl (by simp; omega)
theorem turned_ok (z:Int):CP Y F.checker_integer_turned [intV z] (intV (-z)):=by
 refine checker_integer_turned_i ?_
 simp (disch:=first|omega|simp<;>omega|fail)[checker_integer_turned,intV,intL]
 have:=len_pos (n:=z.natAbs)
 refine br_in (fun h=>?_) (fun h=>?_) <;> try simp (disch:=first|omega|simp<;>omega|fail)[h]
 all_goals exact out_int2 (by omega) (by simp; omega)
def fits (z:Int):Prop:=len z.natAbs < 2 ^ 40
theorem add_ok {a b:Int} (ha:fits a) (hb:fits b):CP Y F.checker_integer_add [intV a,intV b] (intV (a+b)):=by
 refine checker_integer_add_i ?_
 simp (disch:=first|omega|simp<;>omega|fail)[checker_integer_add,intV,intL]
 refine br_in (fun h=>?_) (fun h=>?_) <;> try simp (disch:=first|omega|simp<;>omega|fail)[h]
 ·refine cd (plus_ok ha hb) ?_
  simp (disch:=first|omega|simp<;>omega|fail)[nat_natD]
  exact out_int2 (by omega) (by simp; omega)
 ·refine cd (order_ok ha hb) ?_
  simp (disch:=first|omega|simp<;>omega|fail)[cmp_one]
  refine br_in (fun h1=>?_) (fun h1=>?_) <;> try simp (disch:=first|omega|simp<;>omega|fail)[h1]
  ·refine cd (less_ok (by omega) ha) ?_
   simp (disch:=first|omega|simp<;>omega|fail)[nat_natD]
   exact out_int2 (by omega) (by simp; omega)
  ·simp (disch:=first|omega|simp<;>omega|fail)[cmp_neg]
   refine br_in (fun h2=>?_) (fun h2=>?_) <;> try simp (disch:=first|omega|simp<;>omega|fail)[h2]
   ·refine cd (less_ok (by omega) hb) ?_
    simp (disch:=first|omega|simp<;>omega|fail)[nat_natD]
    exact out_int2 (by omega) (by simp; omega)
   ·have e:a+b=0:=by omega
    rw [e]; exact ⟨_,by simp [snap,snaps,natD_zero]; rfl⟩
theorem mul_neg_iff {a b:Int}:a * b < 0↔a≠0∧b≠0∧¬ (a < 0↔b < 0):=by
 rcases Int.lt_trichotomy a 0 with ha | ha | ha <;> rcases Int.lt_trichotomy b 0 with hb | hb | hb
 ·have:=Int.mul_pos_of_neg_of_neg ha hb; omega
 ·subst hb; simp
 ·have:=Int.mul_neg_of_neg_of_pos ha hb; omega
 ·subst ha; simp
 ·subst ha; simp
 ·subst ha; simp
 ·have:=Int.mul_neg_of_pos_of_neg ha hb; omega
 ·subst hb; simp
 ·have:=Int.mul_pos ha hb; omega
theorem times_ok {a b:Int} (ha:fits a) (hb:fits b):CP Y F.checker_integer_times [intV a,intV b] (intV (a * b)):=by
 refine checker_integer_times_i ?_
 simp (disch:=first|omega|simp<;>omega|fail)[checker_integer_times,intV,intL]
 refine cd (product_ok ha hb) ?_
 simp (disch:=first|omega|simp<;>omega|fail)[nat_natD]
 have h1:=len_pos (n:=a.natAbs * b.natAbs)
 have h2:0 < a.natAbs * b.natAbs↔a≠0∧b≠0:=by
  rw [Nat.pos_iff_ne_zero]; simp [Nat.mul_eq_zero]
 have h3:=mul_neg_iff (a:=a) (b:=b)
 refine br_in (fun h=>?_) (fun h=>?_) <;> try simp (disch:=first|omega|simp<;>omega|fail)[h]
 all_goals
  refine out_int2 (Int.natAbs_mul a b) ?_
  rw [Bool.eq_iff_iff]
  by_cases ha0:a < 0 <;> by_cases hb0:b < 0 <;> simp [h3,ha0,hb0] <;> omega
theorem equal_ok {a b:Int} (ha:fits a) (hb:fits b):CP Y F.checker_integer_equal [intV a,intV b] (B (decide (a=b))):=by
 refine checker_integer_equal_i ?_
 simp (disch:=first|omega|simp<;>omega|fail)[checker_integer_equal,intV,intL]
 refine br_in (fun h=>?_) (fun h=>?_) <;> try simp (disch:=first|omega|simp<;>omega|fail)[h]
 ·refine cd (order_ok ha hb) ?_
  simp (disch:=first|omega|simp<;>omega|fail)[h,cmp_zero]
  have:decide (a=b)=decide (a.natAbs=b.natAbs):=by simp; omega
  rw [this]; exact out_bool ..
 ·have:decide (a=b)=false:=by simp; omega
  rw [this]; exact out_bool ..
end Go.Vm
