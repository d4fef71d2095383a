/- The known examples of schismalaw55. -/
import Derived.Test.YtbdajblfnkoagaaGreatDoorQCkTemp
import Derived.Test.YtbdajblfnkoagaaGreatDoorQRefFrac
import Derived.Test.YtbdajblfnkoagaaGreatDoorQT
set_option linter.unusedVariables false
set_option linter.unusedSimpArgs false
namespace Go.Vm
open Go Go.Am Go.Big
theorem of55_ok {a:Int} {d:Nat} (ha:a.natAbs < 1000000000) (hd0:0 < d) (hd:d < 1000000000):CP Y F.schismalaw55_of [I a,I d] (txV (frT a d)):=by
 refine schismalaw55_of_i ?_
 simp (disch:=first|omega|simp<;>omega|fail)[schismalaw55_of]
 refine cd (frac_ok ha hd0 hd) ?_
 simp (disch:=first|omega|simp<;>omega|fail)[txV]
 exact out_sn (by simp [snap,snaps])
theorem ndg1:ndg 1=1:=by unfold ndg; rfl
theorem itoa1:itoa 1=[49]:=by
 unfold itoa itoaN
 rw [if_neg (by omega),show (1:Int).natAbs=1 from rfl,ndg1]
 rfl
theorem itoam1:itoa (-1)=[45,49]:=by
 unfold itoa itoaN
 rw [if_pos (by omega),show (-1:Int).natAbs=1 from rfl,ndg1]
 rfl
theorem frT1:frT 1 1=([49],[49]):=by
 unfold frT
 rw [show (1:Int).tdiv (Nat.gcd (1:Int).natAbs 1:Nat)=1 from rfl,show (((1 / Nat.gcd (1:Int).natAbs 1:Nat)):Int)=1 from rfl,itoa1]
theorem frTm1:frT (-1) 1=([45,49],[49]):=by
 unfold frT
 rw [show (-1:Int).tdiv (Nat.gcd (-1:Int).natAbs 1:Nat) = -1 from rfl,show (((1 / Nat.gcd (-1:Int).natAbs 1:Nat)):Int)=1 from rfl,itoa1,itoam1]
theorem kn1:boundsB 3 4 [50,53]=true:=by decide +kernel
theorem kn2:boundsB 3 4 [50,52]=false:=by decide +kernel
theorem kn3:signB [2,3] [([45,49],[49]),([49],[49])] 1 0 [(2,0,[49]),(3,0,[49])]=true:=by decide +kernel
theorem kn4:memI [[2,0],[0,3]] [1,-1] [2,-3]=true:=by decide +kernel
theorem kn5:tempB [2,3,5] [[4,-4,1]] [[1,0,-4],[0,1,4]]=true:=by decide +kernel
theorem known_ok:CP Y F.schismalaw55_known [] (B true):=by
 refine schismalaw55_known_i ?_
 have b1:=bounds_ok 3 4 [50,53]
 have b2:=bounds_ok 3 4 [50,52]
 rw [kn1] at b1
 rw [kn2] at b2
 have o1:=of55_ok (a:=-1) (d:=1) (by decide) (by decide) (by decide)
 have o2:=of55_ok (a:=1) (d:=1) (by decide) (by decide) (by decide)
 rw [frTm1] at o1
 rw [frT1] at o2
 have sg:=sign_ok (p:=[2,3]) (s:=[([45,49],[49]),([49],[49])]) (sg:=1) (bits:=0) (bs:=[(2,0,[49]),(3,0,[49])]) (by simp) (by simp)
 rw [kn3] at sg
 have mb:=member_ok (m:=[[2,0],[0,3]]) (ks:=[1,-1]) (x:=[2,-3]) (by simp) (by simp) (by simp) (by simp) (by simp)
 rw [kn4] at mb
 have tp:=temperament_ok (p:=[2,3,5]) (cm:=[[4,-4,1]]) (mp:=[[1,0,-4],[0,1,4]]) (by simp) (by simp) (by simp)
 rw [kn5] at tp
 simp (disch:=first|omega|simp<;>omega|fail)[schismalaw55_known,lisR,repl,toDs,toD]
 refine cd b1 ?_
 simp (disch:=first|omega|simp<;>omega|fail)[]
 refine cd o1 ?_
 simp (disch:=first|omega|simp<;>omega|fail)[]
 refine cd o2 ?_
 simp (disch:=first|omega|simp<;>omega|fail)[txV,lisR,repl,toDs,toD]
 refine cd sg ?_ (by simp [snaps,snap])
 simp (disch:=first|omega|simp<;>omega|fail)[lisR,repl,toDs,toD]
 refine cd mb ?_ (by simp [snaps,snap])
 simp (disch:=first|omega|simp<;>omega|fail)[]
 refine cd tp ?_ (by simp [snaps,snap])
 simp (disch:=first|omega|simp<;>omega|fail)[]
 refine cd b2 ?_
 simp (disch:=first|omega|simp<;>omega|fail)[]
end Go.Vm
