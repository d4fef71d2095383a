/- append. -/
import Derived.Test.YtbdajblfnkoagaaGreatDoorQAm
import Derived.Test.YtbdajblfnkoagaaGreatDoorQVmA
set_option linter.unusedVariables false
set_option linter.unusedSimpArgs false
namespace Go.Vm
open Go Go.Am
section
variable {φ:List Nat} {F G:Nat→Prop} {H:AH} {h:Hp}
theorem NewB.all {r:Nat} {H':AH} {x:Blk} (N:NewB φ F G h H H' r x) (hr:r=H.n):∀ c,c < H.n→H'.get c=H.get c:=fun c hc=>N.old c hc (by omega)
theorem grow_new {P:Program} (I:Inv φ F G H h) {s k n by_:Nat} {x':Value} {cs:List D} {vs:List Value} {len:Nat} {pre:List D} {wpre:List Value} {q:V→Hp→Prop} (hn:0 < n) (hr:RDs F H (pre++cs) (wpre++vs))
  (hq:new h s (.data n (pre++cs) false false) fun e h=>q (.ref s e 0 len len (pre++cs).length) h)
  (hA:appendV P H n by_ x' k vs=some (.slice (some ⟨H.n,0,none⟩) len len,H.push (looseB H.n n (wpre++vs)))) {U:Prop}:Post U φ F G H h q (appendV P H n by_ x' k vs):=by
 obtain ⟨e,b0,hs,hk⟩:=new_some hq
 have N:NewB φ F G h H (H.push (looseB H.n n (wpre++vs))) H.n (looseB H.n n (wpre++vs)):=NewB.push I rfl rfl
 obtain ⟨I',S',_,hv⟩:=newD_at I hs (ex:=false) (n:=n) hr N rfl rfl rfl (fun _=>rfl) hn
 exact ⟨_,_,_,_,_,_,hA,hk,I',S',hv 0 len len _ rfl,fun _=>N.all rfl⟩
theorem grow_tch (w:WF H) {b:Nat} {x:Blk} (hx:H.get b=some x) (h1:x.st=1) (pos off n:Nat) (cells:List Value) :
  Tch H (((H.set b { x with shared:=true,ver:=x.ver+1 }).kill (beyond b x.fam pos)).push (grownB x off n cells)) x H.n (grownB x off n cells):=by
 have w1:WF (H.set b { x with shared:=true,ver:=x.ver+1 }):=w.set hx (w.fam b x hx)
 have hb:=AH.get_lt hx
 refine ⟨by simp,?_,?_,?_,rfl,rfl,?_⟩
 ·intro c y hy
  have hc:=AH.get_lt hy
  rw [AH.get_push_old (by simpa using hc),AH.get_kill,AH.get_set hx]
  by_cases hcb:c=b
  ·subst hcb
   rw [hx] at hy; cases hy
   rw [if_pos rfl]
   refine ⟨_,rfl,.inr ⟨rfl,h1,?_,?_⟩⟩ <;> dsimp only
   ·split
    ·simp
    ·show x.st≠0; omega
   ·split <;> rfl
  ·rw [if_neg hcb,hy]
   refine ⟨_,rfl,?_⟩
   dsimp only
   split
   ·rename_i hk
    simp only [beyond,Bool.and_eq_true,beq_iff_eq,decide_eq_true_eq] at hk
    exact .inr ⟨hk.1.1.1,hk.1.2,by simp,rfl⟩
   ·exact .inl rfl
 ·intro c y hc hy
  have:=AH.get_lt hy
  simp at this
  omega
 ·have:=AH.get_push_new ((H.set b { x with shared:=true,ver:=x.ver+1 }).kill (beyond b x.fam pos)) (grownB x off n cells)
  simpa using this
 ·have:=(w1.kill (beyond b x.fam pos)).push (x:=grownB x off n cells) (by
   show x.fam≤H.n
   have:=w.fam b x hx
   omega)
  exact this
theorem apC_sim {P:Program} (I:Inv φ F G H h) {dr:Bool} {s n by_:Nat} (hn:0 < n) {x:V} {k:Nat} {cs:List D} {q:V→Hp→Prop} (hq:apC dr s n by_ x k cs h q) {x':Value} (hx:RV φ F H h x x') {vs:List Value} (hr:RDs F H cs vs) :
  Post (dr=true) φ F G H h q (appendV P H n by_ x' k vs):=by
 unfold apC at hq
 split at hq
 ·rename_i h0
  subst h0
  have fin:(∃ a b c,x'=.slice (some ⟨a,b,none⟩) c c∨∃ d,x'=.slice (some ⟨a,b,none⟩) c d∧c≤d)∨x'=.slice none 0 0→q x h→Post (dr=true) φ F G H h q (appendV P H n by_ x' 0 vs):=by
   intro hs hq
   have:appendV P H n by_ x' 0 vs=some (x',H):=by
    rcases hs with ⟨a,b,c,rfl | ⟨d,rfl,hd⟩⟩ | rfl
    ·simp [appendV]
    ·have:¬ d < c:=by omega
     simp [appendV,this]
    ·simp [appendV]
   rw [this]
   exact Post.pure I hq hx
  split at hq
  ·simp only [RV,RD] at hx
   refine fin ?_ hq
   rcases hx with ⟨rfl,rfl,e | ⟨c,o,cap,rfl,_⟩⟩ | ⟨c,o,cap,us,m,rfl,_,hc,_⟩
   ·exact .inr e
   ·exact .inl ⟨c,o,0,.inr ⟨cap,rfl,Nat.zero_le _⟩⟩
   ·exact .inl ⟨c,o,_,.inr ⟨cap,rfl,hc⟩⟩
  ·simp only [RV,RD] at hx
   exact fin (.inr hx.1) hq
  ·simp only [RV] at hx
   obtain ⟨c,o,y,rfl,_⟩:=hx
   exact fin (.inl ⟨c,o,0,.inl rfl⟩) hq
  ·split at hq
   ·rename_i hc
    simp only [RV] at hx
    obtain ⟨⟨b,o,rfl⟩,_⟩:=hx
    exact fin (.inl ⟨b,o,_,.inr ⟨_,rfl,hc⟩⟩) hq
   ·exact hq.elim
  ·exact hq.elim
 ·rename_i hk0
  split at hq
  ·split at hq
   ·rename_i hb
    simp only [RV,RD] at hx
    obtain ⟨rfl,_⟩:=hx
    exact grow_new (P:=P) I (pre:=[]) (wpre:=[]) hn (by simpa using hr) (by simpa using hq) (by simp only [appendV]; rw [if_neg hk0,if_pos hb]; rfl)
   ·exact hq.elim
  ·rename_i m
   split at hq
   ·rename_i hb
    obtain ⟨rfl,hb⟩:=hb
    simp only [RV] at hx
    obtain ⟨c,o,y,rfl,hF,hy,hy1,ho,hfit⟩:=hx
    refine grow_new (P:=P) I (pre:=[]) (wpre:=[]) hn (by simpa using hr) (by simpa using hq) ?_
    simp only [appendV]
    rw [if_neg (by omega),if_neg hk0,if_neg (by omega),if_pos (by simpa using hb),hy]
    simp only [Nat.zero_mul,Nat.add_zero,List.take_zero,List.nil_append,Nat.zero_add]
    rw [if_pos ⟨hy1,by omega⟩,if_pos]
    rcases hfit with hfit | hfit
    ·exact .inl hfit
    ·exact .inr ⟨hfit,ho⟩
   ·exact hq.elim
  ·rename_i s' e off len cap tot
   split at hq
   ·rename_i m old ex fr hg
    split at hq
    ·rename_i hc
     obtain ⟨rfl,ht,hlc,hcap,hcs⟩:=hc
     obtain ⟨rfl,y,hy,hy1,hd,hex,hez,hm,hff,hwr⟩:=ref_at I hx hg ht
     have hs':=hget_some (by simp) hg
     have hyl:=hd.length
     have hvl:=hr.length
     have hlm:off+len * m≤old.length:=by
      have:=Nat.mul_le_mul_right m hlc
      omega
     split at hq
     ·rename_i hroom
      split at hq
      ·exact hq.elim
      ·rename_i hfd
       simp only [Bool.or_eq_true,not_or,Bool.not_eq_true] at hfd
       obtain ⟨rfl,rfl⟩:=hfd
       have hmul:len * m+k * m=(len+k) * m:=(Nat.add_mul ..).symm
       have hle2:=Nat.mul_le_mul_right m hroom
       obtain ⟨H',hw,I',S'⟩:=writeD I hg hr (off:=off+len * m) (by omega)
       refine ⟨.ref s' e off (len+k) cap tot,_,_,_,.slice (some ⟨φ.getD s' 0,off,none⟩) (len+k) cap,H',?_,?_,I',S',?_,fun e=>by cases e⟩
       ·simp only [appendV]
        rw [if_neg (by omega),if_neg hk0,if_pos hroom,hw]
       ·have:off+len * m+cs.length=off+(len+k) * m:=by omega
        rw [this]; exact hq
       ·have:=RV.mono S'.leF S'.sl _ _ hx
        simp only [RV] at this ⊢
        exact ⟨⟨_,_,rfl⟩,this.2.1,fun m hm=>⟨(this.2.2 m hm).1,fun _=>by first | rfl | trivial⟩⟩
     ·rename_i hroom
      split at hq
      ·rename_i hby
       have hA:∀ z,(if y.exact=true∨(y.esz=m∧off+cap * m < y.cells.length) then some (Value.slice (some ⟨H.n,0,none⟩) (len+k) (len+k),H.push (looseB H.n m ((y.cells.drop off).take (len * m)++vs)))
         else if y.wr=true∧y.esz=m∧off+cap * m=y.cells.length∧vs.all okCell=true then
          some (Value.slice (some ⟨H.n,0,none⟩) (len+k) (len+k),(((H.set (φ.getD s' 0) { y with shared:=true,ver:=y.ver+1 }).kill (beyond (φ.getD s' 0) y.fam (y.start+off+len * m))).push (grownB y off m ((y.cells.drop off).take (len * m)++vs))))
         else none)=some z→appendV P H m by_ (.slice (some ⟨φ.getD s' 0,off,none⟩) len cap) k vs=some z:=by
        intro z hz
        simp only [appendV]
        rw [if_neg (by omega),if_neg hk0,if_neg hroom,if_pos hby,hy]
        simp only
        rw [if_pos ⟨hy1,by omega⟩]
        exact hz
       have hpre:RDs F H ((old.drop off).take (len * m)++cs) ((y.cells.drop off).take (len * m)++vs):=((hd.drop off).take _).append hr
       have hpl:((old.drop off).take (len * m)).length=len * m:=by rw [List.length_take,List.length_drop]; omega
       split at hq
       ·rename_i hexx
        refine grow_new (P:=P) I (len:=len+k) hn hpre (by
         have:((old.drop off).take (len * m)++cs).length=len * m+cs.length:=by rw [List.length_append,hpl]
         rw [this]; exact hq) (hA _ ?_)
        rw [if_pos (.inl (by rw [hex,hexx]))]
       ·rename_i hexx
        have hexx:ex=false:=by cases ex <;> simp_all
        subst hexx
        split at hq
        ·exact hq.elim
        ·rename_i hfd
         simp only [Bool.or_eq_true,not_or,Bool.not_eq_true] at hfd
         obtain ⟨rfl,rfl⟩:=hfd
         split at hq
         ·rename_i hend
          have hesz:=hez rfl
          have T:=grow_tch I.wf hy hy1 (y.start+off+len * m) off m ((y.cells.drop off).take (len * m)++vs)
          have hblen:((old.drop off).take (len * m)++cs).length=len * m+cs.length:=by rw [List.length_append,hpl]
          obtain ⟨I',S'⟩:=I.touch hs' rfl hy hy1 T (.inr (Nat.le_refl _)) (b':=.data m ((old.drop off).take (len * m)++cs) false false) (m:=old.length) (m':=len * m+cs.length) rfl (by simp only [blen,hblen]) (by omega) (fun e=>by omega)
           fun hl hsl=>⟨_,T.get,rfl,RDs.mono hl _ _ hpre,rfl,fun _=>rfl,hm,fun e=>absurd e (by simp),fun _=>rfl⟩
          refine ⟨_,_,_,_,.slice (some ⟨H.n,0,none⟩) (len+k) (len+k),_,hA _ ?_,hq,I',S',?_,fun e=>by cases e⟩
          ·rw [if_neg,if_pos ⟨hwr rfl,hesz,by omega,hr.okCells⟩]
           rintro (e | e)
           ·rw [hex] at e; cases e
           ·omega
          ·simp only [RV]
           have hsl:=lt_of_get hs'
           have hg':(hset h s' e (.data m ((old.drop off).take (len * m)++cs) false false))[s']? = some (e,.data m ((old.drop off).take (len * m)++cs) false false):=by rw [hset_get hsl,if_pos rfl]
           refine ⟨⟨_,_,rfl⟩,by simp [ep,hg'],fun m' hm'=>?_⟩
           rw [hget_of hg'] at hm'
           cases hm'
           exact ⟨by omega,fun _=>by rw [set_getD (by rw [I.len]; exact hsl),if_pos rfl]⟩
         ·exact hq.elim
      ·exact hq.elim
    ·exact hq.elim
   ·exact hq.elim
  ·exact hq.elim
theorem apV_sim {P:Program} (I:Inv φ F G H h) {dr:Bool} {s n by_:Nat} (hn:0 < n) {x y:V} {q:V→Hp→Prop} (hq:apV dr s n by_ x y h q) {x' y':Value} (hx:RV φ F H h x x') (hy:RV φ F H h y y') :
  ∃ k vs,srcV H n y'=some (k,vs)∧Post (dr=true) φ F G H h q (appendV P H n by_ x' k vs):=by
 unfold apV at hq
 split at hq
 ·rename_i t
  split at hq
  ·rename_i h1
   subst h1
   rw [rv_str] at hy
   subst hy
   refine ⟨t.length,t.map fun b=>.int .u8 b.toNat,by simp [srcV,ByteArray.size],apC_sim I hn hq hx ?_⟩
   have:∀ l:List UInt8,RDs F H (l.map fun b=>D.int .u8 b.toNat) (l.map fun b=>Value.int .u8 b.toNat):=by
    intro l
    induction l with
    | nil=>simp [RDs]
    | cons b l ih=>simp only [List.map_cons,RDs]; exact ⟨_,_,rfl,by simp only [RD],ih⟩
   exact this t
  ·exact hq.elim
 ·split at hq
  ·rename_i k cs hc
   split at hq
   ·rename_i hl
    obtain ⟨vs,hs,hr⟩:=cells_sim I hc hy n hl
    exact ⟨k,vs,hs,apC_sim I hn hq hx hr⟩
   ·exact hq.elim
  ·exact hq.elim
end
end Go.Vm
namespace Go.Vm
open Go Go.Am
section
variable {φ:List Nat} {F G:Nat→Prop} {H:AH} {h:Hp}
theorem foldl_set (off:Nat):∀ (l:List Value) (k:Nat) (cs:Array Value),off+k+l.length≤cs.size →
  ((l.zipIdx k).foldl (fun (cs:Array Value) (x:Value × Nat)=>cs.setIfInBounds (off+x.2) x.1) cs).toList=cs.toList.take (off+k)++l++cs.toList.drop (off+k+l.length)
 | [],k,cs,_=>by simp
 | v :: l,k,cs,hb=>by
  simp only [List.zipIdx_cons,List.foldl_cons]
  simp only [List.length_cons] at hb
  rw [foldl_set off l (k+1) _ (by simp; omega)]
  have hk:off+k < cs.toList.length:=by simp; omega
  rw [Array.toList_setIfInBounds]
  have e1:(cs.toList.set (off+k) v).take (off+(k+1))=cs.toList.take (off+k)++[v]:=by
   rw [show off+(k+1)=(off+k)+1 by omega,List.take_add_one,List.take_set_of_le (Nat.le_refl _),List.getElem?_set_self hk]; rfl
  have e2:(cs.toList.set (off+k) v).drop (off+(k+1)+l.length)=cs.toList.drop (off+k+(l.length+1)):=by
   rw [List.drop_set_of_lt (by omega),show off+(k+1)+l.length=off+k+(l.length+1) by omega]
  rw [e1,e2]
  simp [List.append_assoc]
theorem fill_step (place:Nat→Option (Nat × Nat)) (cells:Array Value) (i:Nat) (v:Value) (rest:List (Nat × Value)) {off sz:Nat} (hp:place i=some (off,sz)) (hs:v.cells.size=sz) (hb:off+sz≤cells.size) :
  ∃ c',c'.toList=cells.toList.take off++v.cells.toList++cells.toList.drop (off+sz)∧Instr.fill place cells ((i,v) :: rest)=Instr.fill place c' rest:=by
 refine ⟨(v.cells.toList.zipIdx.foldl (fun (cs:Array Value) (x:Value × Nat)=>cs.setIfInBounds (off+x.2) x.1) cells),?_,?_⟩
 ·rw [foldl_set off _ 0 cells (by simp; omega)]
  simp [hs]
 ·simp only [Instr.fill,hp]
  rw [if_neg (by simp [hs]; omega)]
  congr 1
  rw [← Array.foldl_toList,Array.toList_zipIdx]
def PsR (φ:List Nat) (F:Nat→Prop) (H:AH) (h:Hp):List (Nat × V)→List (Nat × Value)→Prop
 | [],l=>l=[]
 | (i,v) :: r,l=>∃ w q,l=(i,w) :: q∧RV φ F H h v w∧PsR φ F H h r q
theorem fill_sim (place:Nat→Option (Nat × Nat)):∀ {ps:List (Nat × V)} {qs:List (Nat × Value)} {cs rs:List V} {cells:Array Value},fillV place cs ps=some rs→PsR φ F H h ps qs→RVs φ F H h cs cells.toList →
  ∃ r,Instr.fill place cells qs=some r∧RVs φ F H h rs r.toList
 | [],_,cs,rs,cells,hf,hp,hc=>by
  simp only [PsR] at hp
  subst hp
  simp only [fillV,Option.some.injEq] at hf
  subst hf
  exact ⟨cells,rfl,hc⟩
 | (i,v) :: ps,_,cs,rs,cells,hf,hp,hc=>by
  simp only [PsR] at hp
  obtain ⟨w,q,rfl,hv,hq⟩:=hp
  unfold fillV at hf
  split at hf
  ·cases hf
  ·rename_i off sz hpl
   split at hf
   ·cases hf
   ·rename_i vs hvs
    split at hf
    ·rename_i hb
     have hr:=cellsV_sim hvs hv
     have h1:=hr.length
     have h2:=hc.length
     simp only [Array.length_toList] at h1 h2
     obtain ⟨c',hc',hfill⟩:=fill_step place cells i w q hpl (by omega) (by omega)
     rw [hfill]
     refine fill_sim place hf hq ?_
     rw [hc']
     have:off+sz=off+vs.length:=by omega
     rw [this]
     exact ((hc.take off).append hr).append (hc.drop _)
    ·cases hf
theorem bld_sim {P:Program} {t:TypeId} {fs:List (Nat × Nat)} {gs:Array Field} {z:List D} (hu:P.underlying t=some (.struct gs)) (hg:gs.toList.map (fun f=>(f.offset,szO P f.type))=fs.map fun p=>(p.1,some p.2))
  {zv:Value} (hz:zeroO P t=some zv) (hpl:plain zv=true) (hzz:zv.cells.toList.map litD=z) (hok:∀ c ∈ zv.cells.toList,okZ c) {ps:List (Nat × V)} {qs:Array (Nat × Value)} (hp:PsR φ F H h ps qs.toList)
  {v:V} (hv:bld fs z ps=some v):∃ w,buildV P t qs=some w∧RV φ F H h v w:=by
 unfold bld at hv
 split at hv
 ·rename_i l hl
  cases hv
  have hpl2:(fun i:Nat=>fs[i]?)=fun i:Nat=>(gs.map fun f=>(f.offset,(szO P f.type).getD 0))[i]?:=by
   funext i
   have:=congrArg (·[i]?) hg
   simp only [List.getElem?_map] at this
   rw [← Array.getElem?_toList,Array.toList_map,List.getElem?_map]
   cases h1:fs[i]? with
   | none =>
    cases h2:gs.toList[i]? with
    | none=>rfl
    | some f=>rw [h1,h2] at this; cases this
   | some p =>
    cases h2:gs.toList[i]? with
    | none=>rw [h1,h2] at this; cases this
    | some f =>
     rw [h1,h2] at this
     simp only [Option.map_some,Option.some.injEq,Prod.mk.injEq] at this
     simp only [Option.map_some,this.1,this.2,Option.getD_some]
  have hall:gs.all (fun f=>(szO P f.type).isSome)=true:=by
   rw [← Array.all_toList,List.all_eq_true]
   intro f hf
   obtain ⟨i,hi⟩:=List.getElem?_of_mem hf
   have:=congrArg (·[i]?) hg
   simp only [List.getElem?_map,hi,Option.map_some] at this
   cases h1:fs[i]? with
   | none=>rw [h1] at this; cases this
   | some p =>
    rw [h1] at this
    simp only [Option.map_some,Option.some.injEq,Prod.mk.injEq] at this
    simp [this.2]
  have hzr:RVs φ F H h (z.map .d) zv.cells.toList:=by rw [← hzz]; exact RVs.ofD (litDs_rel hok)
  rw [hpl2] at hl
  obtain ⟨r,hr,hrv⟩:=fill_sim _ hl hp (cells:=zv.cells) hzr
  refine ⟨.agg r,?_,by obtain ⟨r⟩:=r; simp only [RV]; exact ⟨r,rfl,hrv⟩⟩
  simp only [buildV,hz,hu,hpl,hall,Bool.and_self,if_true,hr,Option.map_some]
 ·cases hv
theorem bldA_sim {P:Program} {t e:TypeId} {len n:Nat} {z:List D} (hu:P.underlying t=some (.array len e)) (hn:szO P e=some n)
  {zv:Value} (hz:zeroO P t=some zv) (hpl:plain zv=true) (hzz:zv.cells.toList.map litD=z) (hok:∀ c ∈ zv.cells.toList,okZ c) {ps:List (Nat × V)} {qs:Array (Nat × Value)} (hp:PsR φ F H h ps qs.toList)
  {v:V} (hv:bldA n z ps=some v):∃ w,buildV P t qs=some w∧RV φ F H h v w:=by
 unfold bldA at hv
 split at hv
 ·rename_i l hl
  cases hv
  have hzr:RVs φ F H h (z.map .d) zv.cells.toList:=by rw [← hzz]; exact RVs.ofD (litDs_rel hok)
  obtain ⟨r,hr,hrv⟩:=fill_sim _ hl hp (cells:=zv.cells) hzr
  refine ⟨.agg r,?_,by obtain ⟨r⟩:=r; simp only [RV]; exact ⟨r,rfl,hrv⟩⟩
  simp only [buildV,hz,hu,hn,hpl,if_true,hr,Option.map_some]
 ·cases hv
theorem zcells_succ (l:List Value) (k:Nat):zcells l ((k+1) * l.length)=l++zcells l (k * l.length):=by
 apply List.ext_getElem?
 intro i
 unfold zcells
 by_cases hi:i < l.length
 ·have:i < (k+1) * l.length:=Nat.lt_of_lt_of_le hi (by rw [Nat.add_mul]; omega)
  rw [List.getElem?_append_left hi,List.getElem?_map,List.getElem?_range this,Option.map_some,Nat.mod_eq_of_lt hi,List.getD_eq_getElem?_getD,List.getElem?_eq_getElem hi]; rfl
 ·rw [List.getElem?_append_right (by omega),List.getElem?_map,List.getElem?_map]
  have e:(k+1) * l.length=k * l.length+l.length:=by rw [Nat.add_mul]; omega
  by_cases h2:i < (k+1) * l.length
  ·rw [List.getElem?_range h2,List.getElem?_range (by omega),Option.map_some,Option.map_some,Nat.mod_eq_sub_mod (by omega)]
  ·rw [List.getElem?_eq_none (by simp; omega),List.getElem?_eq_none (by simp; omega)]
theorem zeros_rel {l:List Value} (hok:∀ c ∈ l,okZ c):∀ k,RDs F H (repl k (l.map litD)) (zcells l (k * l.length))
 | 0=>by simp [repl,zcells,RDs]
 | k+1=>by
  rw [zcells_succ]
  exact (litDs_rel hok).append (zeros_rel hok k)
theorem lis_fill {P:Program} {t e:TypeId} {len:Nat} {z:List D} (hu:P.underlying t=some (.slice e))
  {zv:Value} (hn:szO P e=some zv.cells.size) (hz:zeroO P e=some zv) (hpl:plain zv=true) (hzz:zv.cells.toList.map litD=z) (hok:∀ c ∈ zv.cells.toList,okZ c) {ps:List (Nat × V)} {qs:Array (Nat × Value)} (hp:PsR φ F H h ps qs.toList)
  {vs:List V} (hv:fillV (fun i=>some (i * z.length,z.length)) ((repl len z).map .d) ps=some vs) (h0:0 < z.length) (hl:len * z.length≤16777216) (rid:Option Nat) :
  ∃ ws,RVs φ F H h vs ws∧buildSliceV P H rid t len qs=match mkB H rid ws with
   | some (b,H')=>some (.slice (some ⟨b,0,none⟩) len len,H')
   | none=>none:=by
 have hzl:z.length=zv.cells.size:=by rw [← hzz]; simp
 have hzr:RVs φ F H h ((repl len z).map .d) (zcells zv.cells.toList (len * zv.cells.size)).toArray.toList:=by
  have:=zeros_rel (F:=F) (H:=H) hok len
  rw [hzz] at this
  simpa using RVs.ofD (φ:=φ) (h:=h) this
 rw [hzl] at hv h0 hl
 obtain ⟨r,hr,hrv⟩:=fill_sim _ hv hp hzr
 refine ⟨r.toList,hrv,?_⟩
 simp only [buildSliceV,hu,hn,hz]
 rw [if_pos ⟨hpl,trivial,h0,hl⟩]
 simp only [hr]
 rfl
theorem fillV_length (place:Nat→Option (Nat × Nat)):∀ {ps:List (Nat × V)} {cs rs:List V},fillV place cs ps=some rs→rs.length=cs.length
 | [],cs,rs,hf=>by simp only [fillV,Option.some.injEq] at hf; subst hf; rfl
 | (i,v) :: ps,cs,rs,hf=>by
  unfold fillV at hf
  split at hf
  ·cases hf
  ·split at hf
   ·cases hf
   ·split at hf
    ·rename_i hb
     rw [fillV_length place hf]
     simp only [List.length_append,List.length_take,List.length_drop]; omega
    ·cases hf
theorem repl_length (z:List D):∀ n,(repl n z).length=n * z.length
 | 0=>by simp [repl]
 | n+1=>by simp only [repl,List.length_append,repl_length z n,Nat.add_mul]; omega
theorem toDs_length:∀ {vs:List V} {h h':Hp} {xs:List D},toDs h vs=some (xs,h')→xs.length=vs.length
 | [],_,_,_,ht=>by cases ht; rfl
 | v :: vs,h,h',xs,ht=>by
  unfold toDs at ht
  split at ht
  ·split at ht
   ·rename_i hx
    cases ht
    simp [toDs_length hx]
   ·cases ht
  ·cases ht
theorem lis_start {P:Program} (I:Inv φ F G H h) {rid:Option Nat} (U:UnbO G H rid) {t e:TypeId} {len:Nat} {z:List D} (hu:P.underlying t=some (.slice e))
  {zv:Value} (hn:szO P e=some zv.cells.size) (hz:zeroO P e=some zv) (hpl:plain zv=true) (hzz:zv.cells.toList.map litD=z) (hok:∀ c ∈ zv.cells.toList,okZ c) {ps:List (Nat × V)} {qs:Array (Nat × Value)} (hp:PsR φ F H h ps qs.toList)
  {vs:List V} (hvs:fillV (fun i=>some (i * z.length,z.length)) ((repl len z).map .d) ps=some vs) (hc:0 < z.length∧len * z.length≤16777216) {xs:List D} {h1:Hp} (hx:toDs h vs=some (xs,h1)) :
  ∃ F1 r H' ws,SnapTo G φ F H h h1 F1∧RDs F1 H xs ws∧xs.length=len * z.length∧NewB φ F1 G h1 H H' r (fresh r ws)∧buildSliceV P H rid t len qs=some (.slice (some ⟨r,0,none⟩) len len,H'):=by
 obtain ⟨ws,hr,hb⟩:=lis_fill hu hn hz hpl hzz hok hp hvs hc.1 hc.2 rid
 obtain ⟨F1,S1,r1⟩:=toDs_sim I hx hr
 obtain ⟨r,H',hm,N⟩:=mk_new S1.1 U ws
 refine ⟨F1,r,H',ws,S1,r1,?_,N,by rw [hb,hm]⟩
 rw [toDs_length hx,fillV_length _ hvs,List.length_map,repl_length]
theorem lisD_sim {P:Program} (I:Inv φ F G H h) {rid:Option Nat} (U:UnbO G H rid) {t e:TypeId} {len:Nat} {z:List D} (hu:P.underlying t=some (.slice e))
  {zv:Value} (hn:szO P e=some zv.cells.size) (hz:zeroO P e=some zv) (hpl:plain zv=true) (hzz:zv.cells.toList.map litD=z) (hok:∀ c ∈ zv.cells.toList,okZ c) {ps:List (Nat × V)} {qs:Array (Nat × Value)} (hp:PsR φ F H h ps qs.toList)
  {k:V→Hp→Prop} (hk:lisD len z ps h k):Post False φ F G H h k (buildSliceV P H rid t len qs):=by
 unfold lisD at hk
 split at hk
 ·rename_i vs hvs
  split at hk
  ·rename_i hc
   split at hk
   ·rename_i xs h1 hx
    obtain ⟨F1,r,H',ws,S1,r1,hlen,N,hb⟩:=lis_start I U hu hn hz hpl hzz hok hp hvs hc hx
    rw [hb]
    obtain ⟨I2,S2⟩:=S1.1.newData N
    refine ⟨_,_,_,_,.slice (some ⟨r,0,none⟩) len len,H',rfl,hk,I2,S1.2.trans S2,?_,False.elim⟩
    simp only [RV,RD]
    by_cases h0:len=0
    ·subst h0
     refine .inl ⟨by first | rfl | trivial,List.eq_nil_of_length_eq_zero (by omega),.inr ⟨r,0,0,rfl,_,N.get,by simp [fresh]⟩⟩
    ·refine .inr ⟨r,0,len,ws,z.length,rfl,by omega,Nat.le_refl _,hc.1,hlen,.inr rfl,?_,RDs.mono S2.leF _ _ r1,_,N.get,.inl rfl⟩
     have:=r1.length
     rw [readC_of N.get rfl (by show 0+xs.length≤ws.length; omega)]
     show some ((ws.drop 0).take xs.length)=_
     rw [List.drop_zero,← this,List.take_length]
   ·exact hk.elim
  ·exact hk.elim
 ·exact hk.elim
theorem clrD_sim {P:Program} (I:Inv φ F G H h) {t e ty:TypeId} {ts:Array TypeId} (hu:(ts[0]?).bind P.underlying=some (.slice e))
  {zv:Value} {z:List D} (hn:szO P e=some zv.cells.size) (hz:zeroO P e=some zv) (hpl:plain zv=true) (hzz:zv.cells.toList.map litD=z) (hok:∀ c ∈ zv.cells.toList,okZ c) {x:V} {x':Value} {k:V→Hp→Prop}
  (hk:clrD h z x k) (hx:RV φ F H h x x'):Post False φ F G H h k (builtinV P H .clear ts ty [x']):=by
 unfold clrD at hk
 split at hk
 ·rename_i s e' off len cap tot
  split at hk
  ·rename_i n cs ex fr hg
   split at hk
   ·rename_i hc
    obtain ⟨hl,hzl,hn0,rfl,ht,hle⟩:=hc
    obtain ⟨rfl,y,hy,hy1,hd,hex,hesz,_⟩:=ref_at I hx hg ht
    have hr:RDs F H (repl len z) (zcells zv.cells.toList (len * zv.cells.size)):=by
     have:=zeros_rel (F:=F) (H:=H) hok len
     rw [hzz] at this
     simpa using this
    obtain ⟨H',hw,I2,S2⟩:=writeD I hg hr hle
    have hs0:0 < zv.cells.size:=by
     have:z.length=zv.cells.size:=by rw [← hzz]; simp
     omega
    refine ⟨_,_,_,_,undef,H',?_,hk,I2,S2,?_,False.elim⟩
    ·simp only [builtinV,hu,hn,hz]
     rw [if_pos ⟨hpl,by first | rfl | trivial,hs0⟩,if_neg (by omega),hw]
     rfl
    ·simp only [RV]; exact ⟨[],rfl,rfl⟩
   ·exact hk.elim
  ·exact hk.elim
 ·exact hk.elim
theorem bytes_rel {F:Nat→Prop} {H:AH}:∀ s:List UInt8,RDs F H (s.map fun b=>.int .u8 b.toNat) (s.map fun b=>Value.int .u8 b.toNat)
 | []=>rfl
 | b :: s=>⟨_,_,rfl,rfl,bytes_rel s⟩
theorem cvB_sim {P:Program} (I:Inv φ F G H h) {s d e:TypeId} (hs:P.underlying s=some .string) (hd:P.underlying d=some (.slice e)) (he:P.underlying e=some (.int .u8)) {x:V} {x':Value} {k:V→Hp→Prop}
  (hk:cvB x h k) (hx:RV φ F H h x x'):Post False φ F G H h k (convertV P H s d x'):=by
 unfold cvB at hk
 split at hk
 ·rename_i t
  rw [rv_str] at hx
  subst hx
  let ws:=t.map fun b:UInt8=>Value.int .u8 b.toNat
  have N:NewB φ F G h H (H.push (looseB H.n 1 ws)) H.n (looseB H.n 1 ws):=NewB.push I rfl rfl
  obtain ⟨I2,S2⟩:=I.newData N
  refine ⟨_,_,_,_,.slice (some ⟨H.n,0,none⟩) t.length t.length,H.push (looseB H.n 1 ws),?_,hk,I2,S2,?_,False.elim⟩
  ·unfold convertV
   rw [hs,hd]
   simp only [he]
   rfl
  ·simp only [RV,RD]
   by_cases h0:t.length=0
   ·have:t=[]:=List.eq_nil_of_length_eq_zero h0
    subst this
    exact .inl ⟨rfl,rfl,.inr ⟨H.n,0,0,rfl,_,N.get,by simp [looseB]⟩⟩
   ·refine .inr ⟨H.n,0,t.length,ws,1,rfl,by omega,Nat.le_refl _,Nat.one_pos,by simp,.inr rfl,?_,bytes_rel t,_,N.get,.inr rfl⟩
    rw [readC_of N.get rfl (by show 0+(t.map _).length≤ws.length; simp [ws])]
    show some ((ws.drop 0).take (t.map _).length)=_
    rw [List.drop_zero,List.length_map,List.take_of_length_le (by simp [ws])]
 ·exact hk.elim
theorem lisS_sim {P:Program} (I:Inv φ F G H h) {rid:Option Nat} (U:UnbO G H rid) {t e:TypeId} {s len:Nat} {z:List D} (hu:P.underlying t=some (.slice e))
  {zv:Value} (hn:szO P e=some zv.cells.size) (hz:zeroO P e=some zv) (hpl:plain zv=true) (hzz:zv.cells.toList.map litD=z) (hok:∀ c ∈ zv.cells.toList,okZ c) {ps:List (Nat × V)} {qs:Array (Nat × Value)} (hp:PsR φ F H h ps qs.toList)
  {k:V→Hp→Prop} (hk:lisS s len z ps h k):Post False φ F G H h k (buildSliceV P H rid t len qs):=by
 unfold lisS at hk
 split at hk
 ·rename_i vs hvs
  split at hk
  ·rename_i hc
   split at hk
   ·rename_i xs h1 hx
    obtain ⟨F1,r,H',ws,S1,r1,hlen,N,hb⟩:=lis_start I U hu hn hz hpl hzz hok hp hvs hc hx
    rw [hb]
    obtain ⟨e0,b0,hs,hk⟩:=new_some hk
    obtain ⟨I2,S2,_,hv⟩:=newD_at S1.1 hs (ex:=true) (n:=z.length) r1 N rfl rfl rfl (fun e=>by cases e) hc.1
    exact ⟨_,_,_,_,.slice (some ⟨r,0,none⟩) len len,H',rfl,hk,I2,S1.2.trans S2,hv 0 len len _ rfl,False.elim⟩
   ·exact hk.elim
  ·exact hk.elim
 ·exact hk.elim
theorem mkS_sim {P:Program} (I:Inv φ F G H h) {rid:Option Nat} (U:UnbO G H rid) {t e:TypeId} {s by_:Nat} {z:List D} (hu:P.underlying t=some (.slice e))
  {zv:Value} (hn:szO P e=some zv.cells.size) (hby:bytesO P e=some by_) (hz:zeroO P e=some zv) (hpl:plain zv=true) (hzz:zv.cells.toList.map litD=z) (hok:∀ c ∈ zv.cells.toList,okZ c)
  {l c:V} {l' c':Value} (hl:RV φ F H h l l') (hc:RV φ F H h c c') {k:V→Hp→Prop} (hk:mkS s by_ z h l c k):Post False φ F G H h k (makeSliceV P H rid t l' c'):=by
 unfold mkS at hk
 split at hk
 ·rename_i k1 l k2 c
  rw [rv_int] at hl hc
  subst hl; subst hc
  split at hk
  ·rename_i hb
   have hzl:z.length=zv.cells.size:=by rw [← hzz]; simp
   obtain ⟨e0,b0,hs,hk⟩:=new_some hk
   obtain ⟨r,H',hm,N⟩:=mk_new I U (zcells zv.cells.toList (c.toNat * zv.cells.size))
   have hr:RDs F H (repl c.toNat z) (zcells zv.cells.toList (c.toNat * zv.cells.size)):=by
    have:=zeros_rel (F:=F) (H:=H) hok c.toNat
    rw [hzz] at this
    simpa using this
   obtain ⟨I2,S2,_,hv⟩:=newD_at I hs (ex:=true) (n:=z.length) hr N rfl rfl rfl (fun e=>by cases e) hb.2.2.1
   refine ⟨_,_,_,_,.slice (some ⟨r,0,none⟩) l.toNat c.toNat,H',?_,hk,I2,S2,hv 0 _ _ _ rfl,False.elim⟩
   simp only [makeSliceV,hu,hn,hz,hby]
   rw [if_pos ⟨hpl,trivial,by omega,hb.1,hb.2.1,hb.2.2.2.1,hb.2.2.2.2⟩]
   simp only [hm]
  ·exact hk.elim
 ·exact hk.elim
end
end Go.Vm
namespace Go.Vm
open Go Go.Am
def okX:Operand→Bool
 | .const v=>litOk v
 | _=>true
def tyO:Ty→Bool
 | .o=>false
 | _=>true
def okOp (Y:VCfg) (nt:Nat) (o:Oper):Bool :=
 (match o.dst with | some t=>decide (t < nt) | none=>true) && o.op.operands.all okX &&
 match o.op with
 | .alloc t=>tyO (Y.ty t).k && match (Y.ty t).k with
  | .ar _ e=>tyO (Y.ty e).k && decide (0 < (Y.ty e).sz)
  | _=>true
 | .store t _ _=>tyO (Y.ty t).k
 | .buildSlice t _ _ | .makeSlice t _ _=>match (Y.ty t).k with
  | .sl e=>tyO (Y.ty e).k
  | _=>true
 | .build t _=>match (Y.ty t).k with
  | .ar _ e=>tyO (Y.ty e).k
  | _=>true
 | .fieldAddr t _ f=>match (Y.ty t).k with
  | .st fs=>match fs[f]? with
   | some (_,sz)=>decide (sz≠0)
   | none=>true
  | _=>true
 | .field t _ f=>match Y.X.P.underlying t with
  | some (.struct gs)=>match gs[f]? with
   | some fd=>match Y.X.P.underlying fd.type with
    | some (.struct _) | some (.array _ _)=>!(Nat.beq ((szO Y.X.P fd.type).getD 0) 1)
    | some _=>Nat.beq ((szO Y.X.P fd.type).getD 0) 1
    | none=>false
   | none=>true
  | _=>true
 | .indexAddr t _ _ | .slice t _ _ _ _=>match (Y.ty t).k with
  | .sl e | .ar _ e=>tyO (Y.ty e).k
  | _=>true
 | .convert s d _=>match (Y.ty s).k,(Y.ty d).k with
  | .sl e,.s=>match (Y.ty e).k with
   | .i .u8=>true
   | _=>false
  | .s,.sl e=>match (Y.ty e).k with
   | .i .u8=>true
   | _=>false
  | _,_=>true
 | .call c=>match c.callee with
  | .builtin .append=>(match c.argTypes[0]?,c.argTypes[1]? with
   | some t,some u=>(match (Y.ty t).k with
     | .sl e=>tyO (Y.ty e).k && decide (0 < (Y.ty e).sz) && decide (0 < (Y.ty e).bytes)
     | _=>true)
   | _,_=>false) && decide (c.args.size=2)
  | .builtin .len | .builtin .clear | .builtin .cap=>decide (c.args.size=1) && decide (0 < c.argTypes.size)
  | _=>true
 | _=>true
structure YOk (Y:VCfg):Prop where
 ty:∀ t,TyRel Y.X.P t (Y.ty t)
def GlobR (Y:VCfg) (F:Nat→Prop) (H:AH):Prop:=∀ g cs,Y.glob g=some cs→Y.X.glob g=true∧F g∧∃ vs,readC H g 0 cs.length=some vs∧RDs F H cs vs
theorem GlobR.mono {Y:VCfg} {F F':Nat→Prop} {H H':AH} (hl:LeF F F' H H') (g:GlobR Y F H):GlobR Y F' H':=fun i cs h=>by
 obtain ⟨h1,h2,vs,h3,h4⟩:=g i cs h
 exact ⟨h1,hl.fm i h2,vs,by rw [readC_congr (hl.keep i h2)]; exact h3,RDs.mono hl _ _ h4⟩
def EnvR (φ:List Nat) (F:Nat→Prop) (H:AH) (h:Hp) (env:Env) (a:List Value):Prop:=∀ t,RV φ F H h (lk env t) (getT a t)
theorem EnvR.mono {φ φ':List Nat} {F F':Nat→Prop} {H H':AH} {h h':Hp} (hl:LeF F F' H H') (hs:SlLe φ h φ' h') {env:Env} {a:List Value} (e:EnvR φ F H h env a):EnvR φ' F' H' h' env a :=
 fun t=>RV.mono hl hs _ _ (e t)
theorem getT_set (a:List Value) (d t:Nat) (v:Value) (hd:d < a.length):getT (a.set d v) t=if t=d then v else getT a t:=by
 rw [getT_eq,getT_eq,List.getD_eq_getElem?_getD,List.getD_eq_getElem?_getD]
 by_cases ht:t=d
 ·subst ht; rw [List.getElem?_set_self hd,if_pos rfl]; rfl
 ·rw [List.getElem?_set_ne (by omega),if_neg ht]
theorem lk_cons (t d:Nat) (v:V) (env:Env):lk ((d,v) :: env) t=if t=d then v else lk env t:=by
 simp only [lk]
 cases h:Nat.beq d t with
 | true=>rw [if_pos (Nat.eq_of_beq_eq_true h).symm]
 | false=>rw [if_neg (fun e=>by subst e; rw [Nat.beq_refl] at h; cases h)]
theorem EnvR.put {φ:List Nat} {F:Nat→Prop} {H:AH} {h:Hp} {env:Env} {a:List Value} (e:EnvR φ F H h env a) {dst:Option Nat} (hd:∀ t,dst=some t→t < a.length) {v:V} {w:Value} (hv:RV φ F H h v w) :
  EnvR φ F H h (putO env dst v) (fput a dst w):=by
 cases dst with
 | none=>exact e
 | some d =>
  intro t
  show RV φ F H h (lk ((d,v) :: env) t) (getT (a.set d w) t)
  rw [lk_cons,getT_set a d t w (hd d rfl)]
  split
  ·exact hv
  ·exact e t
theorem lkK_eq:∀ (env:Env) (t:Nat) (k:V→Prop),lkK env t k=k (lk env t)
 | [],_,_=>rfl
 | (i,v) :: l,t,k=>by
  simp only [lkK,lk]
  split
  ·rfl
  ·exact lkK_eq l t k
theorem evK_eq (Y:VCfg) (env:Env) (x:Operand) (k:V→Prop):evK Y env x k=k (ev Y env x):=by
 cases x <;> simp only [evK,ev,lkK_eq]
theorem evsK_eq (Y:VCfg) (env:Env):∀ (l:List Operand) (k:List V→Prop),evsK Y env l k=k (l.map (ev Y env))
 | [],_=>rfl
 | x :: l,k=>by simp only [evsK,evK_eq,evsK_eq Y env l,List.map_cons]
section
variable {Y:VCfg} {φ:List Nat} {F G:Nat→Prop} {H:AH} {h:Hp}
theorem ev_rel (g:GlobR Y F H) {env:Env} {a:List Value} (e:EnvR φ F H h env a) {x:Operand} (hx:okX x=true):RV φ F H h (ev Y env x) (Am.ev Y.X a x):=by
 cases x with
 | tmp t=>exact e t
 | const v=>exact lit_rel hx
 | global i =>
  simp only [ev,Am.ev]
  split
  ·rename_i cs hcs
   obtain ⟨h1,h2,vs,h3,h4⟩:=g i cs hcs
   rw [h1]
   simp only [if_true,RV]
   exact ⟨i,0,vs,rfl,h2,h3,h4⟩
  ·simp only [RV]
 | func f=>simp only [ev,Am.ev,RV]; exact ⟨[],[],rfl,by simp [RVs],by simp [RVs]⟩
theorem evs_rel (g:GlobR Y F H) {env:Env} {a:List Value} (e:EnvR φ F H h env a):∀ {l:List Operand},(∀ x ∈ l,okX x=true)→RVs φ F H h (l.map (ev Y env)) (l.map (Am.ev Y.X a))
 | [],_=>by simp [RVs]
 | x :: l,hl=>by
  simp only [List.map_cons,RVs]
  exact ⟨_,_,rfl,ev_rel g e (hl x (by simp)),evs_rel g e fun y hy=>hl y (by simp [hy])⟩
theorem ps_rel (g:GlobR Y F H) {env:Env} {a:List Value} (e:EnvR φ F H h env a):∀ {l:List (Nat × Operand)},(∀ x ∈ l,okX x.2=true) →
  PsR φ F H h (l.map fun p=>(p.1,ev Y env p.2)) (l.map fun p=>(p.1,Am.ev Y.X a p.2))
 | [],_=>by simp [PsR]
 | x :: l,hl=>by
  simp only [List.map_cons,PsR]
  exact ⟨_,_,rfl,ev_rel g e (hl x (by simp)),ps_rel g e fun y hy=>hl y (by simp [hy])⟩
def RidOk (P:Program) (φ:List Nat) (F G:Nat→Prop) (H:AH) (h:Hp) (o:Op) (rid:Option Nat):Prop :=
 match o,rid with
 | .alloc t,some r=>Rid φ F G H h (some r)∧∃ z,zeroO P t=some z∧H.get r=some (fresh r z.cells.toList)
 | _,rid=>UnbO G H rid
theorem Post.weak {U:Prop} {k:V→Hp→Prop} {r:Option (Value × AH)} (p:Post False φ F G H h k r) (hU:¬ U):Post U φ F G H h k r:=by
 obtain ⟨v,h',φ',F',w,H',e,hk,I',S',hv,_⟩:=p
 exact ⟨v,h',φ',F',w,H',e,hk,I',S',hv,fun u=>(hU u).elim⟩
theorem bo_ev (g:GlobR Y F H) {env:Env} {a:List Value} (e:EnvR φ F H h env a) {x:Option Operand} (hx:∀ y,x=some y→okX y=true):BoR φ F H h (x.map (ev Y env)) (x.map (Am.ev Y.X a)):=by
 cases x with
 | none=>exact ⟨fun v hv=>(by cases hv),fun _=>rfl⟩
 | some y=>exact ⟨fun v hv=>(by cases hv; exact ⟨_,rfl,ev_rel g e (hx y rfl)⟩),fun hv=>(by cases hv)⟩
theorem ty_zero (Y:VCfg) (hY:YOk Y) {t:TypeId} (ht:tyO (Y.ty t).k=true):∃ z,szO Y.X.P t=some z.cells.size∧zeroO Y.X.P t=some z∧plain z=true∧z.cells.toList.map litD=(Y.ty t).z∧z.cells.size=(Y.ty t).sz∧(∀ c ∈ z.cells.toList,okZ c)∧bytesO Y.X.P t=some (Y.ty t).bytes∧szO Y.X.P t=some (Y.ty t).sz:=by
 have hne:(Y.ty t).k≠.o:=by intro e; rw [e] at ht; cases ht
 have T:=hY.ty t
 obtain ⟨z,h1,h2,h3,h4,h5⟩:=T.zero hne
 exact ⟨z,by rw [h4]; exact T.sz hne,h1,h2,h3,h4,h5,T.bytes hne,T.sz hne⟩
theorem apZ_sim {P:Program} (I:Inv φ F G H h) {dr:Bool} {s n by_:Nat} (hn:0 < n) {z:List D} {zv:Value} (hzz:zv.cells.toList.map litD=z) (hok:∀ c ∈ zv.cells.toList,okZ c) (hsz:zv.cells.size=n)
  {x y:V} {q:V→Hp→Prop} (hq:apZ dr s n by_ z x y h q) {x' y':Value} (hx:RV φ F H h x x') (hy:RV φ F H h y y') :
  ∃ ki k,y'=.int ki k∧0≤k∧k * by_≤140737488355328∧Post (dr=true) φ F G H h q (appendV P H n by_ x' k.toNat (zcells zv.cells.toList (k.toNat * n))):=by
 unfold apZ at hq
 split at hq
 ·rename_i ki k
  rw [rv_int] at hy
  split at hq
  ·rename_i hb
   refine ⟨ki,k,hy,hb.1,hb.2,apC_sim I hn hq hx ?_⟩
   have:=zeros_rel (F:=F) (H:=H) hok k.toNat
   rw [hzz] at this
   rw [← hsz]
   simpa using this
  ·exact hq.elim
 ·exact hq.elim
theorem opV_sim (hY:YOk Y) (g:GlobR Y F H) (I:Inv φ F G H h) {C:CC} {dr:Bool} {act:Act} {o:Oper} {nt:Nat} (ho:okOp Y nt o=true) {env:Env} {a:List Value} (e:EnvR φ F H h env a)
  {rid:Option Nat} (R:RidOk Y.X.P φ F G H h o.op rid) {k:V→Hp→Prop} (hk:opD Y C dr act o env h k) (hcall:∀ c,o.op=.call c→isBuiltin c.callee=true) :
  Post (dr=true∧isApp o.op=true) φ F G H h k (opV Y.X rid H a o):=by
 obtain ⟨dst,op,ty,pos,aft,gu⟩:=o
 simp only [okOp,Bool.and_eq_true] at ho
 obtain ⟨⟨hdst,hopd⟩,ho⟩:=ho
 have hx:∀ x ∈ op.operands.toList,okX x=true:=fun x hx=>by
  rw [← Array.all_toList,List.all_eq_true] at hopd
  exact hopd x hx
 cases op <;> simp only [opD,evK_eq,evsK_eq] at hk <;> (try exact hk.elim) <;> (try dsimp only at ho) <;> simp only [opV]
 case move x=>exact Post.pure I hk (ev_rel g e (hx x (by simp [Op.operands])))
 case assign x=>exact Post.pure I hk (ev_rel g e (hx x (by simp [Op.operands])))
 case pick c x y =>
  refine Post.bnd I hk fun v hv=>?_
  obtain ⟨t,hc,hr⟩:=pick_sim hv (ev_rel g e (hx c (by simp [Op.operands]))) (ev_rel g e (hx x (by simp [Op.operands]))) (ev_rel g e (hx y (by simp [Op.operands])))
  rw [hc]
  exact ⟨_,rfl,hr⟩
 case alloc t =>
  split at hk
  ·rename_i s
   rw [Bool.and_eq_true] at ho
   obtain ⟨ht,ho⟩:=ho
   obtain ⟨z,hsz,hz,hpl,hzz,hsz2,hok,hby,_⟩:=ty_zero Y hY ht
   rw [hz]
   simp only [hpl,if_true]
   have hzr:RDs F H (Y.ty t).z z.cells.toList:=by rw [← hzz]; exact litDs_rel hok
   have fin:∀ r H',NewB φ F G h H H' r (fresh r z.cells.toList)→Post (dr=true∧isApp (Op.alloc t)=true) φ F G H h k (some (.pointer (some ⟨r,0,none⟩),H')):=by
    intro r H' N
    refine Post.weak ?_ (by simp [isApp])
    split at hk
    ·rename_i n2 e2 hk2
     rw [hk2] at ho
     simp only [Bool.and_eq_true,decide_eq_true_eq] at ho
     unfold alD at hk
     obtain ⟨e0,b0,hs,hk⟩:=new_some hk
     obtain ⟨I2,S2,hv,_⟩:=newD_at I hs (ex:=true) (n:=(Y.ty e2).sz) hzr N rfl rfl rfl (fun e=>by cases e) ho.2
     exact ⟨_,_,_,_,_,H',rfl,hk,I2,S2,hv 0 _ rfl,False.elim⟩
    ·exact newV_sim I hk (RVs.ofD hzr) N rfl rfl
   cases rid with
   | none=>exact fin H.n _ (NewB.push I rfl rfl)
   | some r =>
    obtain ⟨R1,z',hz',hg⟩:=R
    rw [hz] at hz'
    cases hz'
    exact fin r H (NewB.laid I R1 hg rfl rfl)
  ·exact hk.elim
 case box t x =>
  split at hk
  ·rename_i s
   unfold boxD at hk
   split at hk
   ·rename_i cs hcs
    obtain ⟨r,H',hm,N⟩:=mk_new I R ((Am.ev Y.X a x).cells.toList)
    rw [hm]
    exact Post.weak (newV_sim I hk (cellsV_sim hcs (ev_rel g e (hx x (by simp [Op.operands])))) N rfl rfl) (by simp [isApp])
   ·exact hk.elim
  ·exact hk.elim
 case build t ps =>
  have hps:PsR φ F H h (ps.toList.map fun p=>(p.1,ev Y env p.2)) (ps.map fun (i,x)=>(i,Am.ev Y.X a x)).toList:=by
   rw [Array.toList_map]
   exact ps_rel g e fun p hp=>hx p.2 (by simp only [Op.operands,List.mem_map]; exact ⟨p,hp,rfl⟩)
  have T:=hY.ty t
  split at hk
  ·rename_i fs hfs
   obtain ⟨z,hsz,hz,hpl,hzz,_,hok,_,_⟩:=ty_zero Y hY (t:=t) (by rw [hfs]; rfl)
   have hkd:=T.kind
   rw [hfs] at hkd
   obtain ⟨gs,hu,hg⟩:=hkd
   refine Post.bnd I hk fun v hv=>?_
   obtain ⟨w,hw,hr⟩:=bld_sim hu hg hz hpl hzz hok hps hv
   exact ⟨w,by rw [hw]; rfl,hr⟩
  ·rename_i n2 e2 hfs
   obtain ⟨z,hsz,hz,hpl,hzz,_,hok,_,_⟩:=ty_zero Y hY (t:=t) (by rw [hfs]; rfl)
   have hkd:=T.kind
   rw [hfs] at hkd ho
   obtain ⟨_,_,_,_,_,_,_,_,hsz2⟩:=ty_zero Y hY ho
   refine Post.bnd I hk fun v hv=>?_
   obtain ⟨w,hw,hr⟩:=bldA_sim hkd hsz2 hz hpl hzz hok hps hv
   exact ⟨w,by rw [hw]; rfl,hr⟩
  ·exact hk.elim
 case buildSlice t len ps =>
  have hps:PsR φ F H h (ps.toList.map fun p=>(p.1,ev Y env p.2)) (ps.map fun (i,x)=>(i,Am.ev Y.X a x)).toList:=by
   rw [Array.toList_map]
   exact ps_rel g e fun p hp=>hx p.2 (by simp only [Op.operands,List.mem_map]; exact ⟨p,hp,rfl⟩)
  split at hk
  ·rename_i e2 hfs
   rw [hfs] at ho
   have hkd:=(hY.ty t).kind
   rw [hfs] at hkd
   obtain ⟨z,hsz,hz,hpl,hzz,_,hok,_,_⟩:=ty_zero Y hY ho
   refine Post.weak ?_ (by simp [isApp])
   split at hk
   ·exact lisS_sim I R hkd hsz hz hpl hzz hok hps hk
   ·exact lisD_sim I R hkd hsz hz hpl hzz hok hps hk
  ·exact hk.elim
 case load t x =>
  have T:=hY.ty t
  have hr:=ev_rel g e (hx x (by simp [Op.operands]))
  split at hk
  ·rename_i hag
   refine Post.bnd I hk fun v hv=>?_
   have hu:(∃ gs,Y.X.P.underlying t=some (.struct gs))∨∃ k e,Y.X.P.underlying t=some (.array k e):=by
    have hkd:=T.kind
    revert hkd hag
    cases (Y.ty t).k <;> simp only [isAg] <;> intro hag hkd <;> try cases hag
    ·exact .inr ⟨_,_,hkd⟩
    ·obtain ⟨gs,hu,_⟩:=hkd; exact .inl ⟨gs,hu⟩
   obtain ⟨w,hw,hr⟩:=loadA_sim I hu (T.sz (by intro e; rw [e] at hag; cases hag)) hv hr
   exact ⟨w,by rw [hw]; rfl,hr⟩
  ·rename_i hag
   refine Post.bnd I hk fun v hv=>?_
   have hu:∃ d,Y.X.P.underlying t=some d∧(∀ gs,d≠.struct gs)∧∀ n e,d≠.array n e:=by
    have hkd:=T.kind
    revert hkd hag
    cases (Y.ty t).k <;> simp only [isAg] <;> intro hag hkd <;> (try cases hag)
    all_goals first
     | exact ⟨_,hkd,fun _=>by simp,fun _ _=>by simp⟩
     | (obtain ⟨_,hkd⟩:=hkd; exact ⟨_,hkd,fun _=>by simp,fun _ _=>by simp⟩)
     | (obtain ⟨_,_,_,hkd⟩:=hkd; exact ⟨_,hkd,fun _=>by simp,fun _ _=>by simp⟩)
   obtain ⟨d,hd,h1,h2⟩:=hu
   obtain ⟨w,hw,hr⟩:=load1_sim I hd h1 h2 hv hr
   exact ⟨w,by rw [hw]; rfl,hr⟩
  ·exact hk.elim
 case store t x y =>
  have hne:(Y.ty t).k≠.o:=by intro e; rw [e] at ho; cases ho
  exact Post.weak (st_sim I ((hY.ty t).sz hne) hk (ev_rel g e (hx x (by simp [Op.operands]))) (ev_rel g e (hx y (by simp [Op.operands])))) (by simp [isApp])
 case nilCheck x =>
  refine Post.bnd I hk fun v hv=>?_
  obtain ⟨p,hp,hr⟩:=nilCheck_sim hv (ev_rel g e (hx x (by simp [Op.operands])))
  rw [hp] at hr ⊢
  exact ⟨_,rfl,hr⟩
 case binOp op t x y u =>
  have T:=(hY.ty t).kind
  have rx:=ev_rel g e (hx x (by simp [Op.operands]))
  have ry:=ev_rel g e (hx y (by simp [Op.operands]))
  split at hk
  ·refine Post.bnd I hk fun v hv=>?_
   obtain ⟨w,hw,hr⟩:=biI_sim (P:=Y.X.P) (t:=t) (ox:=x) (oy:=y) hv rx ry
   exact ⟨w,by rw [hw]; rfl,hr⟩
  ·rename_i hb
   rw [hb] at T
   refine Post.bnd I hk fun v hv=>?_
   obtain ⟨w,hw,hr⟩:=biB_sim (ox:=x) (oy:=y) T hv rx ry
   exact ⟨w,by rw [hw]; rfl,hr⟩
  ·refine Post.bnd I hk fun v hv=>?_
   obtain ⟨w,hw,hr⟩:=biS_sim (P:=Y.X.P) (t:=t) (ox:=x) (oy:=y) hv rx ry
   exact ⟨w,by rw [hw]; rfl,hr⟩
  ·rename_i e2 hs
   rw [hs] at T
   obtain ⟨v,w,hkv,hw,hr⟩:=nilD_sim I (ox:=x) (oy:=y) T hk rx ry
   rw [hw]
   exact Post.pure I hkv hr
  ·rename_i hs
   rw [hs] at T
   split at hk
   ·rename_i cv
    refine Post.bnd I hk fun v hv=>?_
    obtain ⟨w,hw,hr⟩:=biF_sim (ox:=x) (cv:=cv) T hv rx ry
    exact ⟨w,by rw [hw]; rfl,hr⟩
   ·exact hk.elim
  ·exact hk.elim
 case unOp op t x =>
  refine Post.bnd I hk fun v hv=>?_
  obtain ⟨h1,w,hw,hr⟩:=un_sim (P:=Y.X.P) hv (ev_rel g e (hx x (by simp [Op.operands])))
  rw [h1,hw]
  exact ⟨w,rfl,hr⟩
 case convert s d x =>
  have Ts:=(hY.ty s).kind
  have Td:=(hY.ty d).kind
  have rx:=ev_rel g e (hx x (by simp [Op.operands]))
  split at hk
  ·rename_i k1 k2 e1 e2
   rw [e1] at Ts; rw [e2] at Td
   exact Post.bnd I hk fun v hv=>cvI_sim Ts Td hv rx
  ·rename_i e1 e2
   rw [e1] at Ts; rw [e2] at Td
   exact Post.bnd I hk fun v hv=>cvS_sim Ts Td hv rx
  ·rename_i el e1 e2
   rw [e1] at Ts; rw [e2] at Td
   rw [e1,e2] at ho
   refine Post.bnd I hk fun v hv=>?_
   have he:Y.X.P.underlying el=some (.int .u8):=by
    have T3:=(hY.ty el).kind
    dsimp only at ho
    generalize (Y.ty el).k=q at ho T3
    cases q with
    | i k=>cases k <;> first | exact T3 | cases ho
    | _=>cases ho
   exact cvT_sim I Ts he Td hv rx
  ·rename_i el e1 e2
   rw [e1] at Ts; rw [e2] at Td
   rw [e1,e2] at ho
   have he:Y.X.P.underlying el=some (.int .u8):=by
    have T3:=(hY.ty el).kind
    dsimp only at ho
    generalize (Y.ty el).k=q at ho T3
    cases q with
    | i k=>cases k <;> first | exact T3 | cases ho
    | _=>cases ho
   exact Post.weak (cvB_sim I Ts Td he hk rx) (by simp [isApp])
  ·exact hk.elim
 case makeFunc f x y =>
  cases f <;> simp only [opD,evK_eq,evsK_eq] at hk <;> first | exact hk.elim | skip
  refine Post.pure I hk ?_
  simp only [RV]
  refine ⟨x.toList.map (Am.ev Y.X a),y.toList.map (Am.ev Y.X a),by simp [← Array.toList_map],evs_rel g e fun z hz=>hx z (by simp [Op.operands,hz]),evs_rel g e fun z hz=>hx z (by simp [Op.operands,hz])⟩
 case makeSlice t l c =>
  split at hk
  ·rename_i e2 s hfs
   rw [hfs] at ho
   have hkd:=(hY.ty t).kind
   rw [hfs] at hkd
   obtain ⟨z,hsz,hz,hpl,hzz,_,hok,hby,_⟩:=ty_zero Y hY ho
   exact Post.weak (mkS_sim I R hkd hsz hby hz hpl hzz hok (ev_rel g e (hx l (by simp [Op.operands]))) (ev_rel g e (hx c (by simp [Op.operands]))) hk) (by simp [isApp])
  ·exact hk.elim
 case slice t x lo hi mx =>
  have T:=(hY.ty t).kind
  have rx:=ev_rel g e (hx x (by simp [Op.operands]))
  have rl:=bo_ev g e (x:=lo) fun y hy=>hx y (by subst hy; simp [Op.operands])
  have rh:=bo_ev g e (x:=hi) fun y hy=>hx y (by subst hy; simp [Op.operands])
  split at hk
  ·rename_i hfs
   rw [hfs] at T
   split at hk
   ·refine Post.bnd I hk fun v hv=>?_
    obtain ⟨w,hw,hr⟩:=slS_sim T hv rx rl rh
    exact ⟨w,by rw [Option.map_none,hw]; rfl,hr⟩
   ·exact hk.elim
  ·rename_i e2 hfs
   rw [hfs] at T ho
   obtain ⟨_,_,_,_,_,_,_,_,hsz⟩:=ty_zero Y hY ho
   split at hk
   ·refine Post.bnd I hk fun v hv=>?_
    obtain ⟨w,hw,hr⟩:=slV_sim I T hsz hv rx rl rh
    exact ⟨w,by rw [Option.map_none,hw]; rfl,hr⟩
   ·split at hk
    ·refine Post.bnd I hk fun v hv=>?_
     obtain ⟨w,hw,hr⟩:=slZ_sim (k:=.i64) T hsz hv rx
     exact ⟨w,by show (sliceV Y.X.P H t (Am.ev Y.X a x) none (some (Value.int IntKind.i64 0)) (some (Value.int IntKind.i64 0))).map _=_; rw [hw]; rfl,hr⟩
    ·exact hk.elim
   ·rename_i mx hmx
    refine Post.bnd I hk fun v hv=>?_
    obtain ⟨w,hw,hr⟩:=slX_sim I T hsz hv rx rl rh (ev_rel g e (hx mx (by simp [Op.operands])))
    exact ⟨w,by rw [Option.map_some,hw]; rfl,hr⟩
  ·rename_i n2 e2 hfs
   rw [hfs] at T ho
   obtain ⟨_,_,_,_,_,_,_,_,hsz⟩:=ty_zero Y hY ho
   split at hk
   ·refine Post.bnd I hk fun v hv=>?_
    obtain ⟨w,hw,hr⟩:=slP_sim I T hsz hv rx rl rh
    exact ⟨w,by rw [Option.map_none,hw]; rfl,hr⟩
   ·exact hk.elim
  ·exact hk.elim
 case fieldAddr t x f =>
  have T:=(hY.ty t).kind
  split at hk
  ·rename_i fs hfs
   rw [hfs] at T ho
   obtain ⟨gs,hu,hg⟩:=T
   split at hk
   ·rename_i off sz hf
    dsimp only at ho
    rw [hf] at ho
    refine Post.bnd I hk fun v hv=>?_
    obtain ⟨w,hw,hr⟩:=fa_sim hu hg hf (by simpa using ho) hv (ev_rel g e (hx x (by simp [Op.operands])))
    exact ⟨w,by rw [hw]; rfl,hr⟩
   ·exact hk.elim
  ·exact hk.elim
 case field t x f =>
  have T:=(hY.ty t).kind
  split at hk
  ·rename_i fs hfs
   rw [hfs] at T
   obtain ⟨gs,hu,hg⟩:=T
   split at hk
   ·rename_i off sz hf
    refine Post.bnd I hk fun v hv=>?_
    obtain ⟨fd,hfd,_,hsz⟩:=field_at hg hf
    obtain ⟨w,hw,hr⟩:=fi_sim hu hg hf (fun fd2 hfd2=>by
     rw [hfd] at hfd2; cases hfd2
     simp only [hu,hfd,hsz,Option.getD_some] at ho
     split at ho
     ·rename_i hd; rw [hd]; simpa using ho
     ·rename_i hd; rw [hd]; simpa using ho
     ·rename_i d h1 h2 hd
      rw [hd]
      cases d <;> first | exact ho | exact absurd rfl (h1 _) | exact absurd rfl (h2 _ _) | exact absurd hd (h1 _) | exact absurd hd (h2 _ _)
     ·cases ho) hv (ev_rel g e (hx x (by simp [Op.operands])))
    exact ⟨w,by rw [hw]; rfl,hr⟩
   ·exact hk.elim
  ·exact hk.elim
 case indexAddr t x i =>
  have T:=(hY.ty t).kind
  have rx:=ev_rel g e (hx x (by simp [Op.operands]))
  have ri:=ev_rel g e (hx i (by simp [Op.operands]))
  split at hk
  ·rename_i e2 hfs
   rw [hfs] at T ho
   obtain ⟨_,_,_,_,_,_,_,_,hsz⟩:=ty_zero Y hY ho
   refine Post.bnd I hk fun v hv=>?_
   obtain ⟨w,hw,hr⟩:=ix_sim I T hsz hv rx ri
   exact ⟨w,by rw [hw]; rfl,hr⟩
  ·rename_i n2 e2 hfs
   rw [hfs] at T ho
   obtain ⟨_,_,_,_,_,_,_,_,hsz⟩:=ty_zero Y hY ho
   refine Post.bnd I hk fun v hv=>?_
   obtain ⟨w,hw,hr⟩:=ixP_sim T hsz hv rx ri
   exact ⟨w,by rw [hw]; rfl,hr⟩
  ·exact hk.elim
 case index t x i =>
  have T:=(hY.ty t).kind
  split at hk
  ·rename_i hfs
   rw [hfs] at T
   refine Post.bnd I hk fun v hv=>?_
   obtain ⟨w,hw,hr⟩:=ixS_sim T hv (ev_rel g e (hx x (by simp [Op.operands]))) (ev_rel g e (hx i (by simp [Op.operands])))
   exact ⟨w,by rw [hw]; rfl,hr⟩
  ·exact hk.elim
 case extract x i =>
  unfold ext at hk
  split at hk
  ·rename_i vs hvs
   refine Post.bnd I hk fun v hv=>?_
   obtain ⟨ws,w,hw,hi,hr⟩:=ext_sim hvs hv (ev_rel g e (hx x (by simp [Op.operands])))
   rw [hw]
   exact ⟨w,by show (ws[i]?).map (fun v=>(v,H))=_; rw [hi]; rfl,hr⟩
  ·exact hk.elim
 case call c =>
  have hb:=hcall c rfl
  obtain ⟨cal,args,ats⟩:=c
  cases cal with
  | value f=>simp [isBuiltin] at hb
  | invoke r m=>simp [isBuiltin] at hb
  | builtin b =>
   cases b <;> dsimp only at hk ho ⊢ <;> (try exact hk.elim)
   case len =>
    simp only [Bool.and_eq_true,decide_eq_true_eq] at ho
    obtain ⟨h1,h2⟩:=ho
    obtain ⟨x,rfl⟩:∃ x,args = #[x]:=by
     obtain ⟨l⟩:=args
     match l,h1 with
     | [x],_=>exact ⟨x,rfl⟩
    have rx:=ev_rel g e (hx x (by simp [Op.operands,Call.operands]))
    obtain ⟨t,ht⟩:∃ t,ats[0]? = some t:=⟨ats[0],by simp [h2]⟩
    have hgd:ats.getD 0 0=t:=by rw [Array.getD_eq_getD_getElem?,ht]; rfl
    have hm:(#[x].map (Am.ev Y.X a)).toList=[Am.ev Y.X a x]:=by simp
    rw [hm]
    have T:=(hY.ty t).kind
    rw [hgd] at hk
    have hA:∀ d,Y.X.P.underlying t=some d→(ats[0]?).bind Y.X.P.underlying=some d:=fun d hd=>by rw [ht]; exact hd
    split at hk
    ·rename_i hfs
     rw [hfs] at T
     refine Post.weak (Post.bnd I hk fun v hv=>?_) (by simp [isApp])
     obtain ⟨s,hs,hr⟩:=lenS_sim hv rx
     refine ⟨_,?_,hr⟩
     simp only [builtinV,hA _ T]
     rw [show Am.ev Y.X a x=.string s from hs]
    ·rename_i e2 hfs
     rw [hfs] at T
     refine Post.weak (Post.bnd I hk fun v hv=>?_) (by simp [isApp])
     obtain ⟨b,n,c,hs,hr⟩:=lenV_sim hv rx
     refine ⟨_,?_,hr⟩
     simp only [builtinV,hA _ T]
     rw [show Am.ev Y.X a x=.slice b n c from hs]
    ·rename_i n e2 hfs
     rw [hfs] at T
     have:builtinV Y.X.P H .len ats ty [Am.ev Y.X a x]=some (.int .i64 n,H):=by
      simp only [builtinV,hA _ T]
     rw [this]
     exact Post.pure I hk (rv_int.2 rfl)
    ·exact hk.elim
   case cap =>
    simp only [Bool.and_eq_true,decide_eq_true_eq] at ho
    obtain ⟨h1,h2⟩:=ho
    obtain ⟨x,rfl⟩:∃ x,args = #[x]:=by
     obtain ⟨l⟩:=args
     match l,h1 with
     | [x],_=>exact ⟨x,rfl⟩
    have rx:=ev_rel g e (hx x (by simp [Op.operands,Call.operands]))
    obtain ⟨t,ht⟩:∃ t,ats[0]? = some t:=⟨ats[0],by simp [h2]⟩
    have hgd:ats.getD 0 0=t:=by rw [Array.getD_eq_getD_getElem?,ht]; rfl
    have hm:(#[x].map (Am.ev Y.X a)).toList=[Am.ev Y.X a x]:=by simp
    rw [hm]
    have T:=(hY.ty t).kind
    rw [hgd] at hk
    have hA:∀ d,Y.X.P.underlying t=some d→(ats[0]?).bind Y.X.P.underlying=some d:=fun d hd=>by rw [ht]; exact hd
    split at hk
    ·rename_i e2 hfs
     rw [hfs] at T
     refine Post.weak (Post.bnd I hk fun v hv=>?_) (by simp [isApp])
     obtain ⟨hs,hr⟩:=capN_sim hv rx
     refine ⟨.int .i64 0,?_,hr⟩
     simp only [builtinV,hA _ T]
     rw [show Am.ev Y.X a x=.slice none 0 0 from hs]
     rfl
    ·exact hk.elim
   case clear =>
    simp only [Bool.and_eq_true,decide_eq_true_eq] at ho
    obtain ⟨h1,h2⟩:=ho
    obtain ⟨x,rfl⟩:∃ x,args = #[x]:=by
     obtain ⟨l⟩:=args
     match l,h1 with
     | [x],_=>exact ⟨x,rfl⟩
    have rx:=ev_rel g e (hx x (by simp [Op.operands,Call.operands]))
    obtain ⟨t,ht⟩:∃ t,ats[0]? = some t:=⟨ats[0],by simp [h2]⟩
    have hgd:ats.getD 0 0=t:=by rw [Array.getD_eq_getD_getElem?,ht]; rfl
    have hm:(#[x].map (Am.ev Y.X a)).toList=[Am.ev Y.X a x]:=by simp
    rw [hm]
    have T:=(hY.ty t).kind
    rw [hgd] at hk
    split at hk
    ·rename_i e2 hfs
     rw [hfs] at T
     split at hk
     ·exact hk.elim
     ·rename_i hag
      have hne:tyO (Y.ty e2).k=true:=by
       revert hag
       cases (Y.ty e2).k <;> simp [isAg,tyO]
      obtain ⟨z,hsz,hz,hpl,hzz,_,hok,_,_⟩:=ty_zero Y hY hne
      refine Post.weak (clrD_sim I (t:=t) (by rw [ht]; exact T) ?_ hz hpl hzz hok hk rx) (by simp [isApp])
      exact hsz
    ·exact hk.elim
   case max =>
    refine Post.weak (Post.bnd I hk fun v hv=>?_) (by simp [isApp])
    have:=mxI_sim (P:=Y.X.P) (ts:=ats) (t:=ty) true hv (evs_rel g e fun z hz=>hx z (by simp [Op.operands,Call.operands,hz]))
    simpa [← Array.toList_map] using this
   case min =>
    refine Post.weak (Post.bnd I hk fun v hv=>?_) (by simp [isApp])
    have:=mxI_sim (P:=Y.X.P) (ts:=ats) (t:=ty) false hv (evs_rel g e fun z hz=>hx z (by simp [Op.operands,Call.operands,hz]))
    simpa [← Array.toList_map] using this
   case append =>
    simp only [Bool.and_eq_true,decide_eq_true_eq] at ho
    obtain ⟨h1,h2⟩:=ho
    obtain ⟨x,y,rfl⟩:∃ x y,args = #[x,y]:=by
     obtain ⟨l⟩:=args
     match l,h2 with
     | [x,y],_=>exact ⟨x,y,rfl⟩
    have rx:=ev_rel g e (hx x (by simp [Op.operands,Call.operands]))
    have ry:=ev_rel g e (hx y (by simp [Op.operands,Call.operands]))
    split at h1
    ·rename_i t u ht hu
     have hgd:ats.getD 0 0=t:=by rw [Array.getD_eq_getD_getElem?,ht]; rfl
     have hgd1:ats.getD 1 0=u:=by rw [Array.getD_eq_getD_getElem?,hu]; rfl
     rw [hgd,hgd1] at hk
     split at hk
     ·rename_i e2 s hfs
      rw [hfs] at h1
      simp only [Bool.and_eq_true,decide_eq_true_eq] at h1
      have T:=(hY.ty t).kind
      rw [hfs] at T
      obtain ⟨z,hsz,hz,hpl,hzz,hz2,hok,hby,hsz2⟩:=ty_zero Y hY h1.1.1
      have n1:¬ ((Y.ty e2).sz=0∨(Y.ty e2).bytes=0∨z.cells.size≠(Y.ty e2).sz):=by omega
      have hm:(#[x,y].map (Am.ev Y.X a)).toList=[Am.ev Y.X a x,Am.ev Y.X a y]:=by simp
      split at hk
      case h_1 =>
       split at hk
       case h_1=>exact hk.elim
       rename_i h4
       obtain ⟨ki,kk,hyv,hk0,hkb,hp⟩:=apZ_sim (P:=Y.X.P) I h1.1.2 hzz hok hz2 hk rx ry
       have hd:∃ i,Y.X.P.underlying u=some (.int i):=by
        have T3:=(hY.ty u).kind
        generalize (Y.ty u).k=q at h4 T3
        cases q with
        | i k=>exact ⟨_,T3⟩
        | _=>exact absurd h4 (by simp [isInt])
       obtain ⟨i,hd⟩:=hd
       have hA:builtinV Y.X.P H .append ats ty [Am.ev Y.X a x,Am.ev Y.X a y]=appendV Y.X.P H (Y.ty e2).sz (Y.ty e2).bytes (Am.ev Y.X a x) kk.toNat (zcells z.cells.toList (kk.toNat * (Y.ty e2).sz)):=by
        unfold builtinV
        simp only [ht,hu,Option.bind_some,T,hd,hsz2,hby,hz,hyv,hpl,hz2,hk0,hkb,true_and,if_true,and_self]
        rw [if_neg (by omega)]
       rw [hm]
       rw [hA]
       obtain ⟨v,h',φ',F',w,H',q1,q2,q3,q4,q5,q6⟩:=hp
       exact ⟨v,h',φ',F',w,H',q1,q2,q3,q4,q5,fun q=>q6 q.1⟩
      rename_i h3
      obtain ⟨k1,vs,hsrc,hp⟩:=apV_sim (P:=Y.X.P) I h1.1.2 hk rx ry
      have hd:∃ d,Y.X.P.underlying u=some d∧∀ k,d≠.int k:=by
       have T3:=(hY.ty u).kind
       generalize (Y.ty u).k=q at h3 T3
       cases q with
       | sl e3=>exact ⟨_,T3,fun k hk=>by cases hk⟩
       | s=>exact ⟨_,T3,fun k hk=>by cases hk⟩
       | _=>exact absurd h3 (by simp [isSeq])
      obtain ⟨d,hd,hdn⟩:=hd
      have hA:builtinV Y.X.P H .append ats ty [Am.ev Y.X a x,Am.ev Y.X a y]=appendV Y.X.P H (Y.ty e2).sz (Y.ty e2).bytes (Am.ev Y.X a x) k1 vs:=by
       unfold builtinV
       simp only [ht,hu,Option.bind_some,T,hd,hsz2,hby,hz,n1,if_false]
       cases d <;> first | exact absurd rfl (hdn _) | simp only [hsrc]
      rw [hm]
      rw [hA]
      obtain ⟨v,h',φ',F',w,H',q1,q2,q3,q4,q5,q6⟩:=hp
      exact ⟨v,h',φ',F',w,H',q1,q2,q3,q4,q5,fun q=>q6 q.1⟩
     ·exact hk.elim
    ·cases h1
end
end Go.Vm
namespace Go.Vm
open Go Go.Am
def LeC (cf cf':CallF):Prop:=∀ f a H r,cf f a H=some r→cf' f a H=some r
section
variable {X:Cfg} {cf cf':CallF}
theorem doOp_more (hl:LeC cf cf') {rid:Option Nat} {H:AH} {a:List Value} {o:Oper} {r:Value × AH} (h:doOp X cf rid H a o=some r):doOp X cf' rid H a o=some r:=by
 unfold doOp at h ⊢
 split at h
 ·rename_i c hc
  split
  ·rename_i hb; rw [if_pos hb] at h; exact h
  ·rename_i hb
   rw [if_neg hb] at h
   cases hg:calleeV (Am.ev X a) c with
   | none=>rw [hg] at h; cases h
   | some q=>rw [hg] at h; exact hl _ _ _ _ h
 ·exact h
theorem stepO_more (hl:LeC cf cf') {ops:Array Oper} {base:Option Nat} {i:Nat} {o:Oper} {a:List Value} {H:AH} {r:List Value × AH} (h:stepO X cf ops base i o a H=some r):stepO X cf' ops base i o a H=some r:=by
 unfold stepO at h ⊢
 split
 ·rename_i hw
  rw [if_pos hw] at h
  unfold dop at h ⊢
  cases hd:doOp X cf (base.map (· + i)) H a o with
  | none=>rw [hd] at h; cases h
  | some q=>rw [hd] at h; rw [doOp_more hl hd]; exact h
 ·rename_i hw
  rw [if_neg hw] at h
  exact h
theorem runL_more (hl:LeC cf cf') {ops:Array Oper} {base:Option Nat}:∀ {l:List Oper} {i:Nat} {a:List Value} {H:AH} {r:List Value × AH},runL X cf ops base i l a H=some r→runL X cf' ops base i l a H=some r
 | [],_,_,_,_,h=>h
 | o :: l,i,a,H,r,h=>by
  unfold runL at h ⊢
  cases hs:stepO X cf ops base i o a H with
  | none=>rw [hs] at h; cases h
  | some q=>rw [hs] at h; rw [stepO_more hl hs]; exact runL_more hl h
theorem region_more (hl:LeC cf cf') {ops:Array Oper} {draw:Bool} {a:List Value} {H:AH} {r:List Value × AH} (h:runRegion X cf ops draw a H=some r):runRegion X cf' ops draw a H=some r:=by
 unfold runRegion at h ⊢
 split
 ·rename_i hd; rw [if_pos hd] at h; exact runL_more hl h
 ·rename_i hd; rw [if_neg hd] at h; exact runL_more hl h
theorem exec_more (hl:LeC cf cf'):∀ {n m:Nat} {c:Code} {a:List Value} {H:AH} {r:Exit × List Value × AH},n≤m→exec X cf n c a H=some r→exec X cf' m c a H=some r:=by
 intro n
 induction n with
 | zero=>intro m c a H r _ h; cases h
 | succ n ih =>
  intro m c a H r hm h
  obtain ⟨m,rfl⟩:∃ k,m=k+1:=⟨m - 1,by omega⟩
  have hm:n≤m:=by omega
  cases c <;> simp only [exec] at h ⊢ <;> try exact h
  case region id ops draw =>
   cases hr:runRegion X cf ops draw a H with
   | none=>rw [hr] at h; cases h
   | some q=>rw [hr] at h; rw [region_more hl hr]; exact h
  case seq x y =>
   cases hx:exec X cf n x a H with
   | none=>rw [hx] at h; cases h
   | some q =>
    obtain ⟨e,a1,H1⟩:=q
    rw [hx] at h
    rw [ih hm hx]
    cases e <;> first | exact ih hm h | exact h
  case cond c x y =>
   split at h
   ·exact ih hm h
   ·exact ih hm h
   ·cases h
  case block id c =>
   cases hx:exec X cf n c a H with
   | none=>rw [hx] at h; cases h
   | some q=>rw [hx] at h; rw [ih hm hx]; exact h
  case loop c =>
   cases hx:exec X cf n c a H with
   | none=>rw [hx] at h; cases h
   | some q =>
    obtain ⟨e,a1,H1⟩:=q
    rw [hx] at h
    rw [ih hm hx]
    cases e <;> first | exact ih hm h | exact h
  case scope c=>exact ih hm h
end
theorem callN_succ (X:Cfg):∀ n,LeC (callN X n) (callN X (n+1))
 | 0,_,_,_,_,h=>by cases h
 | n+1,f,args,H,r,h=>by
  unfold callN at h ⊢
  split
  ·rename_i v hv; rw [hv] at h; exact h
  ·rename_i hv
   rw [hv] at h
   simp only at h
   split
   ·rename_i ha
    rw [if_pos ha] at h
    cases hf:X.P.funcs[f]? with
    | none=>rw [hf] at h; cases h
    | some fn =>
     rw [hf] at h
     simp only at h ⊢
     cases hb:fn.body with
     | none=>rw [hb] at h; cases h
     | some c =>
      rw [hb] at h
      simp only at h ⊢
      cases he:exec X (callN X n) n c (args++List.replicate (fn.ntmps - args.length) undef) H with
      | none=>rw [he] at h; cases h
      | some q =>
       rw [he] at h
       rw [exec_more (callN_succ X n) (Nat.le_succ n) he]
       exact h
   ·rename_i ha
    rw [if_neg ha] at h
    cases h
theorem callN_le (X:Cfg) {n m:Nat} (h:n≤m):LeC (callN X n) (callN X m):=by
 induction h with
 | refl=>exact fun _ _ _ _ h=>h
 | step _ ih=>exact fun f a H r hr=>callN_succ X _ f a H r (ih f a H r hr)
def CallOK (Y:VCfg) (g:FuncId) (ds:List V) (v:V):Prop :=
 ∀ (F:Nat→Prop) (H:AH) (args:List Value),WF H→(∀ c,F c→c < H.n∧∃ x,H.get c=some x∧x.st=1)→GlobR Y F H→(∀ φ0 h0,RVs φ0 F H h0 ds args) →
 ∃ n w H' F',callN Y.X n g args H=some (w,H')∧H.n≤H'.n∧WF H'∧(∀ c,c < H.n→H'.get c=H.get c)∧(∀ c,F c→F' c)∧(∀ c,F' c→F c∨H.n≤c) ∧
  (∀ c,F' c→c < H'.n∧∃ x,H'.get c=some x∧x.st=1) ∧
  (∀ c x,H.n≤c→H'.get c=some x→x.st≠0→∀ g y,g < H.n→H.get g=some y→y.st≠0→x.fam≠y.fam)∧(∀ r,r < H.n→NoKin H r→NoKin H' r) ∧
  ∀ φ0 h0,RV φ0 F' H' h0 v w
section
variable {Y:VCfg} {φ:List Nat} {F G:Nat→Prop} {H:AH} {h:Hp}
theorem Inv.call (I:Inv φ F G H h) {H':AH} {F':Nat→Prop} (hn:H.n≤H'.n) (hw:WF H') (hk:∀ c,c < H.n→H'.get c=H.get c) (hF:∀ c,F c→F' c) (hN:∀ c,F' c→F c∨H.n≤c)
  (ha:∀ c,F' c→c < H'.n∧∃ x,H'.get c=some x∧x.st=1) (hs:∀ c x,H.n≤c→H'.get c=some x→x.st≠0→∀ g y,g < H.n→H.get g=some y→y.st≠0→x.fam≠y.fam)
  (hq:∀ r,r < H.n→NoKin H r→NoKin H' r):Inv φ F' G H' h∧Stp G φ F H h φ F' H' h:=by
 have kFG:∀ c,F c∨G c→H'.get c=H.get c:=fun c hc=>hk c (I.lt c hc)
 have hle:LeF F F' H H':=⟨hF,fun c hc=>kFG c (.inl hc),fun c x hx h0=>⟨x,by rw [hk c (AH.get_lt hx)]; exact hx,h0⟩⟩
 have kO:∀ i e k,h[i]? = some (e,k)→Own k→H'.get (φ.getD i 0)=H.get (φ.getD i 0):=fun i e k hi ho=>by
  obtain ⟨x,hx,_⟩:=I.own_get hi ho
  exact hk _ (AH.get_lt hx)
 refine ⟨⟨I.len,?_,?_,fun c hc=>(ha c hc).2,?_,?_,?_,hw⟩,⟨hn,kFG,hF,?_,hle.born,fun r hr hk=>hq r (I.lt r (.inr hr)) hk,rfl,SlLe.refl φ h⟩⟩
 ·intro i e k hi
  by_cases ho:Own k
  ·exact (I.blk i e k hi).mono hle (SlLe.refl φ h) (kO i e k hi ho)
  ·cases k with
   | none=>trivial
   | vars cs=>exact absurd trivial ho
   | data n cs ex fr =>
    cases fr with
    | false=>exact absurd rfl ho
    | true=>exact (I.blk i e _ hi).mono hle (SlLe.refl φ h) (kFG _ (.inl (frozen_F I hi)))
 ·rintro c (hc | hc)
  ·exact (ha c hc).1
  ·exact Nat.lt_of_lt_of_le (I.lt c (.inr hc)) hn
 ·intro i e k hi ho c hc
  obtain ⟨z,hz,hz1⟩:=I.own_get hi ho
  have old:F c∨G c→_:=fun hc=>by
   obtain ⟨p1,p2⟩:=I.priv i e k hi ho c hc
   exact (⟨p1,fun x y hx hy=>p2 x y (by rw [← kFG c hc]; exact hx) (by rw [← kO i e k hi ho]; exact hy)⟩:c≠φ.getD i 0∧∀ x y,H'.get c=some x→H'.get (φ.getD i 0)=some y→x.st=1→x.fam≠y.fam)
  rcases hc with hc | hc
  ·rcases hN c hc with hc | hc
   ·exact old (.inl hc)
   ·have:=AH.get_lt hz
    refine ⟨by omega,fun x y hx hy h1=>?_⟩
    rw [kO i e k hi ho] at hy
    exact hs c x hc hx (by omega) _ y (AH.get_lt hy) hy (by rw [hz] at hy; cases hy; omega)
  ·exact old (.inr hc)
 ·intro i e k j e' k' hi ho hj ho' hij
  obtain ⟨p1,p2⟩:=I.inj i e k j e' k' hi ho hj ho' hij
  exact ⟨p1,fun x y hx hy=>p2 x y (by rw [← kO i e k hi ho]; exact hx) (by rw [← kO j e' k' hj ho']; exact hy)⟩
 ·intro c x g y hx h0 hc hg hy hy0
  rw [kFG g (.inr hg)] at hy
  by_cases hcn:c < H.n
  ·rw [hk c hcn] at hx
   exact I.sep c x g y hx h0 hc hg hy hy0
  ·exact hs c x (by omega) hx h0 g y (AH.get_lt hy) hy hy0
 ·intro c hc
  rcases hN c hc with hc | hc
  ·exact .inl hc
  ·exact .inr fun hg=>absurd (I.lt c (.inr hg)) (by omega)
def NewI (φ:List Nat) (F G:Nat→Prop) (H:AH) (h:Hp) (n:Nat) (cells:List D) (ex:Bool) (len cap:Nat) (w:Value):Prop :=
 ∃ c x,w=.slice (some ⟨c,0,none⟩) len cap∧H.get c=some x∧x.st=1∧x.wr=true∧RDs F H cells x.cells∧x.exact=ex∧(ex=false→x.esz=n)∧0 < n ∧
  (∀ g,F g∨G g→g≠c∧∀ y,H.get g=some y→y.st=1→y.fam≠x.fam)∧(∀ i e b,h[i]? = some (e,b)→Own b→φ.getD i 0≠c∧∀ y,H.get (φ.getD i 0)=some y→y.fam≠x.fam)
def ResI (φ:List Nat) (F G:Nat→Prop) (H:AH) (h:Hp) (v:V) (w:Value):Prop:=match v with
 | .new n cells ex len cap=>NewI φ F G H h n cells ex len cap w
 | .cut n=>w=.slice none 0 0∨NewI φ F G H h n [] true 0 0 w
 | v=>RV φ F H h v w
def CallOI (Y:VCfg) (g:FuncId) (args:List V) (h:Hp) (v:V) (h':Hp):Prop :=
 ∀ (φ:List Nat) (F G:Nat→Prop) (H:AH) (ws:List Value),Inv φ F G H h→GlobR Y F H→RVs φ F H h args ws →
 ∃ n w H' φ' F',callN Y.X n g ws H=some (w,H')∧Inv φ' F' G H' h'∧Stp G φ F H h φ' F' H' h'∧ResI φ' F' G H' h' v w
structure COk (Y:VCfg) (C:CC):Prop where
 p:∀ g ds v,C.p g ds v→CallOK Y g ds v
 i:∀ g args h v h',C.i g args h v h'→CallOI Y g args h v h'
theorem Inv.adopt (I:Inv φ F G H h) {s e0 n:Nat} {b0:Bk} (hs:h[s]? = some (e0,b0)) {cells:List D} {ex:Bool} {c:Nat} {x:Blk} (hx:H.get c=some x) (hx1:x.st=1) (hwr:x.wr=true) (hd:RDs F H cells x.cells) (hex:x.exact=ex)
  (hez:ex=false→x.esz=n) (hn:0 < n) (hp:∀ g,F g∨G g→g≠c∧∀ y,H.get g=some y→y.st=1→y.fam≠x.fam) (ho:∀ i e b,h[i]? = some (e,b)→Own b→φ.getD i 0≠c∧∀ y,H.get (φ.getD i 0)=some y→y.fam≠x.fam) :
  Inv (φ.set s c) F G H (h.set s (e0+1,.data n cells ex false))∧Stp G φ F H h (φ.set s c) F H (h.set s (e0+1,.data n cells ex false)):=by
 have hsl:s < h.length:=lt_of_get hs
 have hsφ:s < φ.length:=by rw [I.len]; exact hsl
 have hget:∀ i,(h.set s (e0+1,.data n cells ex false))[i]? = if i=s then some (e0+1,.data n cells ex false) else h[i]?:=fun i=>hset_get hsl
 have hle:LeF F F H H:=⟨fun _ hc=>hc,fun _ _=>rfl,fun c x hx h0=>⟨x,hx,h0⟩⟩
 have hslle:SlLe φ h (φ.set s c) (h.set s (e0+1,.data n cells ex false)):=by
  intro i
  by_cases hi:i=s
  ·subst hi
   have e1:ep h i=e0:=by simp [ep,hs]
   have e2:ep (h.set i (e0+1,.data n cells ex false)) i=e0+1:=by simp [ep,hsl]
   exact ⟨by omega,fun e=>by omega⟩
  ·have e2:ep (h.set s (e0+1,.data n cells ex false)) i=ep h i:=by unfold ep; rw [hget,if_neg hi]
   refine ⟨by omega,fun _ m hm=>⟨m,?_,Nat.le_refl _,fun _=>by rw [set_getD hsφ,if_neg hi]⟩⟩
   unfold Vm.hget at hm ⊢
   rw [hget,if_neg hi] at hm
   exact hm
 refine ⟨⟨by simp [I.len],?_,I.lt,I.fb,?_,?_,I.sep,I.wf⟩,⟨Nat.le_refl _,fun _ _=>rfl,fun _ hc=>hc,fun _ hc=>.inl hc,fun c x hx h0=>⟨x,hx,h0⟩,fun _ _ hq=>hq,by simp,hslle⟩⟩
 ·intro i e k hi
  rw [hget] at hi
  rw [set_getD hsφ]
  split at hi
  ·rename_i hi'; subst hi'; cases hi
   rw [if_pos rfl]
   exact ⟨x,hx,hx1,RDs.mono hle _ _ hd,hex,hez,hn,fun e=>(by cases e),fun _=>hwr⟩
  ·rename_i hi'
   rw [if_neg hi']
   exact (I.blk i e k hi).mono hle hslle rfl
 ·intro i e k hi hk g hg
  rw [hget] at hi
  rw [set_getD hsφ]
  split at hi
  ·rename_i hi'; subst hi'; cases hi
   rw [if_pos rfl]
   obtain ⟨p1,p2⟩:=hp g hg
   exact ⟨p1,fun y z hy hz h1=>by rw [hx] at hz; cases hz; exact p2 y hy h1⟩
  ·rename_i hi'
   rw [if_neg hi']
   exact I.priv i e k hi hk g hg
 ·intro i e k j e' k' hi hk hj hk' hij
  rw [hget] at hi hj
  rw [set_getD hsφ,set_getD hsφ]
  split at hi
  ·rename_i hi'; subst hi'; cases hi
   rw [if_neg (Ne.symm hij)] at hj
   rw [if_pos rfl,if_neg (Ne.symm hij)]
   obtain ⟨a1,a2⟩:=ho j e' k' hj hk'
   exact ⟨fun e=>a1 e.symm,fun y z hy hz=>by rw [hx] at hy; cases hy; exact fun e=>a2 z hz e.symm⟩
  ·rename_i hi'
   rw [if_neg hi']
   split at hj
   ·rename_i hj'; subst hj'; cases hj
    rw [if_pos rfl]
    obtain ⟨a1,a2⟩:=ho i e k hi hk
    exact ⟨a1,fun y z hy hz=>by rw [hx] at hz; cases hz; exact a2 y hy⟩
   ·rename_i hj'
    rw [if_neg hj']
    exact I.inj i e k j e' k' hi hk hj hk' hij
theorem cai_sim {D:Calls2} (hD:∀ g args h v h',D g args h v h'→CallOI Y g args h v h') (g:GlobR Y F H) (I:Inv φ F G H h) {c:V} {args:List V} {s:Nat} {k:V→Hp→Prop} (hk:cai D h c args s k) {c':Value} {args':List Value}
  (hc:RV φ F H h c c') (ha:RVs φ F H h args args'):∃ f x y,c'=.func (.func f) ⟨x⟩ ⟨y⟩∧∃ n,Post False φ F G H h k (callN Y.X n f (x++args'++y) H):=by
 unfold cai at hk
 split at hk
 ·rename_i f fs cs
  simp only [RV] at hc
  obtain ⟨x,y,rfl,hx,hy⟩:=hc
  refine ⟨f,x,y,rfl,?_⟩
  obtain ⟨v,h1,hv,hk⟩:=hk
  obtain ⟨n,w,H',φ',F',e,I',S',hr⟩:=hD f _ h v h1 hv φ F G H _ I g ((hx.append ha).append hy)
  refine ⟨n,?_⟩
  rw [e]
  split at hk
  ·rename_i m cells ex len cap
   obtain ⟨e0,b0,hs,hk⟩:=new_some hk
   obtain ⟨c,z,rfl,hz,hz1,hzw,hd,hex,hez,hm,hp,ho⟩:=hr
   obtain ⟨I2,S2⟩:=I'.adopt hs hz hz1 hzw hd hex hez hm hp ho
   refine ⟨_,_,_,_,_,H',rfl,hk,I2,S'.trans S2,?_,False.elim⟩
   obtain ⟨g1,g2⟩:=slot_get (b:=.data m cells ex false) hs
   simp only [RV]
   refine ⟨⟨_,_,rfl⟩,by rw [g2]; exact Nat.le_refl _,fun q hq=>?_⟩
   rw [g1] at hq
   cases hq
   exact ⟨Nat.le_refl _,fun _=>by rw [set_getD (by rw [I'.len]; exact lt_of_get hs),if_pos rfl]⟩
  ·exact hk.elim
  ·rename_i hne hne2
   have hr2:RV φ' F' H' h1 v w:=by
    unfold ResI at hr
    split at hr
    ·exact absurd rfl (hne _ _ _ _ _)
    ·exact absurd rfl (hne2 _)
    ·exact hr
   exact ⟨v,h1,φ',F',w,H',rfl,hk,I',S',hr2,False.elim⟩
 ·exact hk.elim
theorem caiP_sim {D:Calls2} (hD:∀ g args h v h',D g args h v h'→CallOI Y g args h v h') (g:GlobR Y F H) (I:Inv φ F G H h) {c:V} {args:List V} {s:Nat} {k:V→Hp→Prop} (hk:caiP D h c args s k) {c':Value} {args':List Value}
  (hc:RV φ F H h c c') (ha:RVs φ F H h args args') {U:Prop}:∃ f x y,c'=.func (.func f) ⟨x⟩ ⟨y⟩∧∃ n,Post U φ F G H h k (callN Y.X n f (x++args'++y) H):=by
 unfold caiP at hk
 split at hk
 ·rename_i f fs cs
  simp only [RV] at hc
  obtain ⟨x,y,rfl,hx,hy⟩:=hc
  refine ⟨f,x,y,rfl,?_⟩
  split at hk
  ·rename_i ds h1 hsn
   obtain ⟨v,hv,hk⟩:=hk
   obtain ⟨F1,S1,r1⟩:=snaps_sim I hsn ((hx.append ha).append hy)
   have I0:Inv [] F1 (fun c=>c < H.n) H []:=⟨rfl,fun i e b hi=>by simp at hi,fun c hc=>hc.elim (fun h=>S1.1.lt c (.inl h)) id,fun c hc=>S1.1.fb c hc,fun i e b hi=>by simp at hi,fun i e b j e' b' hi=>by simp at hi,
    fun c x g y hx _ hc=>absurd (AH.get_lt hx) hc,I.wf⟩
   obtain ⟨n,w,H',φ',F',e,I',S',hr⟩:=hD f ds [] v [] hv [] F1 _ H _ I0 (g.mono S1.2.leF) (r1 [] [])
   have q3:∀ c,c < H.n→H'.get c=H.get c:=fun c hc=>S'.keep c (.inr hc)
   obtain ⟨I2,S2⟩:=S1.1.call S'.n I'.wf q3 S'.fm (fun c hc=>(S'.fn c hc).imp id fun h=>Nat.le_of_not_lt h) (fun c hc=>⟨I'.lt c (.inl hc) |> fun h=>h,I'.fb c hc⟩)
    (fun c x hcn hx h0 g y hg hy h1=>I'.sep c x g y hx h0 (fun h=>absurd h (Nat.not_lt.2 hcn)) hg (by rw [q3 g hg]; exact hy) h1) (fun r hr hk=>S'.nokin r hr hk)
   refine ⟨n,?_⟩
   rw [e]
   split at hk
   ·rename_i m cells ex len cap
    obtain ⟨e0,b0,hs,hk⟩:=new_some hk
    obtain ⟨c,z,rfl,hz,hz1,hzw,hd,hex,hez,hm,hp,_⟩:=hr
    obtain ⟨I3,S3⟩:=I2.adopt hs hz hz1 hzw hd hex hez hm (fun g hg=>hp g (hg.imp id fun h=>S1.1.lt g (.inr h))) (fun i e b hi ho=>by
     obtain ⟨y,hy,hy1⟩:=S1.1.own_get hi ho
     obtain ⟨p1,p2⟩:=hp _ (.inr (AH.get_lt hy))
     refine ⟨p1,fun u hu=>p2 u hu ?_⟩
     rw [q3 _ (AH.get_lt hy),hy] at hu
     cases hu
     exact hy1)
    refine ⟨_,_,_,_,_,H',rfl,hk,I3,(S1.2.trans S2).trans S3,?_,fun _=>q3⟩
    obtain ⟨g1,g2⟩:=slot_get (b:=.data m cells ex false) hs
    simp only [RV]
    refine ⟨⟨_,_,rfl⟩,by rw [g2]; exact Nat.le_refl _,fun q hq=>?_⟩
    rw [g1] at hq
    cases hq
    exact ⟨Nat.le_refl _,fun _=>by rw [set_getD (by rw [I2.len]; exact lt_of_get hs),if_pos rfl]⟩
   ·rename_i m
    obtain ⟨hk1,hk2⟩:=hk
    rcases hr with rfl | hr
    ·exact ⟨_,h1,φ,F',_,H',rfl,hk1,I2,S1.2.trans S2,by simp only [RV,RD]; exact ⟨trivial,rfl,rfl⟩,fun _=>q3⟩
    obtain ⟨e0,b0,hs,hk⟩:=new_some hk2
    obtain ⟨c,z,rfl,hz,hz1,hzw,hd,hex,hez,hm,hp,_⟩:=hr
    obtain ⟨I3,S3⟩:=I2.adopt hs hz hz1 hzw hd hex hez hm (fun g hg=>hp g (hg.imp id fun h=>S1.1.lt g (.inr h))) (fun i e b hi ho=>by
     obtain ⟨y,hy,hy1⟩:=S1.1.own_get hi ho
     obtain ⟨p1,p2⟩:=hp _ (.inr (AH.get_lt hy))
     refine ⟨p1,fun u hu=>p2 u hu ?_⟩
     rw [q3 _ (AH.get_lt hy),hy] at hu
     cases hu
     exact hy1)
    refine ⟨_,_,_,_,_,H',rfl,hk,I3,(S1.2.trans S2).trans S3,?_,fun _=>q3⟩
    obtain ⟨g1,g2⟩:=slot_get (b:=.data m [] true false) hs
    simp only [RV]
    refine ⟨⟨_,_,rfl⟩,by rw [g2]; exact Nat.le_refl _,fun q hq=>?_⟩
    rw [g1] at hq
    cases hq
    exact ⟨Nat.le_refl _,fun _=>by rw [set_getD (by rw [I2.len]; exact lt_of_get hs),if_pos rfl]⟩
   ·rename_i x
    exact ⟨_,h1,φ,F',w,H',rfl,hk,I2,S1.2.trans S2,hr,fun _=>q3⟩
   ·exact hk.elim
  ·exact hk.elim
 ·exact hk.elim
theorem cal_sim {C:Calls1} (hC:∀ g ds v,C g ds v→CallOK Y g ds v) (g:GlobR Y F H) (I:Inv φ F G H h) {c:V} {args:List V} {k:V→Hp→Prop} (hk:cal C h c args k) {c':Value} {args':List Value}
  (hc:RV φ F H h c c') (ha:RVs φ F H h args args') {U:Prop}:∃ f x y,c'=.func (.func f) ⟨x⟩ ⟨y⟩∧∃ n,Post U φ F G H h k (callN Y.X n f (x++args'++y) H):=by
 unfold cal at hk
 split at hk
 ·rename_i f fs cs
  simp only [RV] at hc
  obtain ⟨x,y,rfl,hx,hy⟩:=hc
  refine ⟨f,x,y,rfl,?_⟩
  split at hk
  ·rename_i ds h1 hsn
   obtain ⟨v,hCv,hk⟩:=hk
   obtain ⟨F1,S1,r1⟩:=snaps_sim I hsn ((hx.append ha).append hy)
   obtain ⟨n,w,H',F',e,q1,q2,q3,q4,q5,q6,q7,q8,q9⟩:=hC f ds v hCv F1 H _ I.wf (fun c hc=>⟨S1.1.lt c (.inl hc),S1.1.fb c hc⟩) (g.mono S1.2.leF) r1
   refine ⟨n,?_⟩
   rw [e]
   split at hk
   ·rename_i hp
    obtain ⟨I2,S2⟩:=I.call q1 q2 q3 (fun c hc=>hc) (fun c hc=>.inl hc) (fun c hc=>by
     have:=I.lt c (.inl hc)
     exact ⟨Nat.lt_of_lt_of_le this q1,by rw [q3 c this]; exact I.fb c hc⟩) q7 q8
    exact ⟨v,h,φ,F,w,H',rfl,hk,I2,S2,plain_rel hp (q9 [] []) _ _ _ _,fun _=>q3⟩
   ·obtain ⟨I2,S2⟩:=S1.1.call q1 q2 q3 q4 q5 q6 q7 q8
    exact ⟨v,h1,φ,F',w,H',rfl,hk,I2,S1.2.trans S2,q9 φ h1,fun _=>q3⟩
  ·exact hk.elim
 ·exact hk.elim
theorem Post.fuel {X:Cfg} {n m:Nat} (hnm:n≤m) {rid:Option Nat} {a:List Value} {o:Oper} {U:Prop} {k:V→Hp→Prop} (p:Post U φ F G H h k (doOp X (callN X n) rid H a o)):Post U φ F G H h k (doOp X (callN X m) rid H a o):=by
 obtain ⟨v,h',φ',F',w,H',e,r⟩:=p
 exact ⟨v,h',φ',F',w,H',doOp_more (callN_le X hnm) e,r⟩
theorem op_sim (hY:YOk Y) {C:CC} (hC:COk Y C) (g:GlobR Y F H) (I:Inv φ F G H h) {dr:Bool} {act:Act} {o:Oper} {nt:Nat} (ho:okOp Y nt o=true) {env:Env} {a:List Value} (e:EnvR φ F H h env a)
  {rid:Option Nat} (R:RidOk Y.X.P φ F G H h o.op rid) {k:V→Hp→Prop} (hk:opD Y C dr act o env h k) :
  ∃ n,Post (dr=true∧(isApp o.op=true∨isCallF o.op=true)) φ F G H h k (doOp Y.X (callN Y.X n) rid H a o):=by
 by_cases hc:∃ c,o.op=.call c∧isBuiltin c.callee=false
 ·obtain ⟨c,hc,hb⟩:=hc
  have hopd:o.op.operands.all okX=true:=by
   simp only [okOp,Bool.and_eq_true] at ho
   exact ho.1.2
  rw [hc] at hopd
  have hx:∀ x ∈ c.operands.toList,okX x=true:=fun x hx=>by
   rw [← Array.all_toList,List.all_eq_true] at hopd
   exact hopd x hx
  obtain ⟨cal,args,ats⟩:=c
  cases cal with
  | builtin b=>simp [isBuiltin] at hb
  | invoke r m =>
   unfold opD at hk
   rw [hc] at hk
   exact hk.elim
  | value f =>
   unfold opD at hk
   rw [hc] at hk
   have rf:=ev_rel g e (hx f (by simp [Call.operands]))
   have ra:=evs_rel g e (l:=args.toList) fun x h=>hx x (by simp [Call.operands,h])
   have fin:∀ {g1 x y n},Am.ev Y.X a f=.func (.func g1) ⟨x⟩ ⟨y⟩→Post (dr=true∧(isApp o.op=true∨isCallF o.op=true)) φ F G H h k (callN Y.X n g1 (x++args.toList.map (Am.ev Y.X a)++y) H) →
     ∃ n,Post (dr=true∧(isApp o.op=true∨isCallF o.op=true)) φ F G H h k (doOp Y.X (callN Y.X n) rid H a o):=by
    intro g1 x y n hf p
    refine ⟨n,?_⟩
    unfold doOp
    rw [hc]
    simp only [isBuiltin,Bool.false_eq_true,if_false,calleeV]
    rw [show Am.ev Y.X a f=_ from hf]
    rw [hc] at p
    simpa using p
   dsimp only at hk
   split at hk
   ·split at hk
    ·obtain ⟨g1,x,y,hf,n,p⟩:=caiP_sim hC.i g I hk rf ra (U:=true=true∧(isApp o.op=true∨isCallF o.op=true))
     exact fin hf (by simpa using p)
    ·obtain ⟨g1,x,y,hf,n,p⟩:=cai_sim hC.i g I hk rf ra
     exact fin hf (Post.weak p (by simp))
   ·obtain ⟨g1,x,y,hf,n,p⟩:=cal_sim hC.p g I hk rf ra (U:=dr=true∧(isApp o.op=true∨isCallF o.op=true))
    exact fin hf p
 ·have hd:∀ n,doOp Y.X (callN Y.X n) rid H a o=opV Y.X rid H a o:=fun n=>by
   unfold doOp
   split
   ·rename_i c hoc
    split
    ·rfl
    ·rename_i hb
     exact absurd ⟨c,hoc,by simpa using hb⟩ hc
   ·rfl
  refine ⟨0,?_⟩
  rw [hd]
  obtain ⟨v,h',φ',F',w,H',q1,q2,q3,q4,q5,q6⟩:=opV_sim hY g I ho e R hk fun c hoc=>by
   cases hb:isBuiltin c.callee with
   | true=>rfl
   | false=>exact absurd ⟨c,hoc,hb⟩ hc
  refine ⟨v,h',φ',F',w,H',q1,q2,q3,q4,q5,fun u=>?_⟩
  obtain ⟨u1,u2 | u2⟩:=u
  ·exact q6 ⟨u1,u2⟩
  ·unfold isCallF at u2
   split at u2
   ·rename_i c hoc
    exact absurd ⟨c,hoc,by simpa using u2⟩ hc
   ·cases u2
end
end Go.Vm
namespace Go.Vm
open Go Go.Am
def okCodeV (Y:VCfg) (nt:Nat):Code→Bool
 | .region _ ops _=>ops.toList.all (okOp Y nt)
 | .seq x y=>okCodeV Y nt x && okCodeV Y nt y
 | .cond c x y=>okX c && okCodeV Y nt x && okCodeV Y nt y
 | .block _ c | .loop c | .scope c=>okCodeV Y nt c
 | _=>true
section
variable {Y:VCfg} {φ:List Nat} {F G:Nat→Prop} {H:AH} {h:Hp}
theorem Inv.weakG {G':Nat→Prop} (I:Inv φ F G H h) (hs:∀ c,G' c→G c) (hk:∀ r,G r→¬ G' r→NoKin H r∧∀ x,H.get r=some x→x.st≠0→x.fam=r):Inv φ F G' H h where
 len:=I.len
 blk:=I.blk
 lt c hc:=I.lt c (hc.imp id (hs c))
 fb:=I.fb
 priv i e b hi ho c hc:=I.priv i e b hi ho c (hc.imp id (hs c))
 inj:=I.inj
 sep c x g y hx h0 hc hg hy hy0:=by
  by_cases hG:G c
  ·obtain ⟨h1,h2⟩:=hk c hG hc
   rw [h2 x hx h0]
   exact fun e=>h1 g y hy hy0 (by rintro rfl; exact hc hg) e.symm
  ·exact I.sep c x g y hx h0 hG (hs g hg) hy hy0
 wf:=I.wf
theorem Stp.weakG {G':Nat→Prop} {φ':List Nat} {F':Nat→Prop} {H':AH} {h':Hp} (S:Stp G φ F H h φ' F' H' h') (hs:∀ c,G' c→G c):Stp G' φ F H h φ' F' H' h' where
 n:=S.n
 keep c hc:=S.keep c (hc.imp id (hs c))
 fm:=S.fm
 fn c hc:=(S.fn c hc).imp id fun hg hg'=>hg (hs c hg')
 born:=S.born
 nokin r hr:=S.nokin r (hs r hr)
 hl:=S.hl
 sl:=S.sl
theorem preB_of {H H':AH} (w:WF H) (w':WF H') (hn:H.n≤H'.n) (hk:∀ c,c < H.n→H'.get c=H.get c):preB H H'=true:=by
 have hl:H'.l.drop (H'.n - H.n)=H.l:=by
  apply List.ext_getElem?
  intro i
  rw [List.getElem?_drop]
  by_cases hi:i < H.n
  ·have:=hk (H.n - 1 - i) (by omega)
   rw [AH.get_pos (by omega),AH.get_pos (by omega)] at this
   rw [show H'.n - 1 - (H.n - 1 - i)=H'.n - H.n+i by omega,show H.n - 1 - (H.n - 1 - i)=i by omega] at this
   exact this
  ·rw [List.getElem?_eq_none (by rw [w'.len]; omega),List.getElem?_eq_none (by rw [w.len]; omega)]
 unfold preB
 rw [hl]
 have:∀ l:List Blk,sameV l l=true:=by
  intro l
  induction l with
  | nil=>rfl
  | cons x l ih=>simp [sameV,ih]
 exact this _
def Rs (base:Option Nat) (n i c:Nat):Prop:=match base with
 | none=>False
 | some B=>B+i≤c∧c < B+n
def Kept (P:Program) (ops:List Oper) (base:Option Nat) (i:Nat) (F:Nat→Prop) (H:AH):Prop:=∀ B,base=some B→∀ j o,ops[j]? = some o→i≤j→H.get (B+j)=some (keptB P (B+j) o)∧NoKin H (B+j)∧¬ F (B+j)
theorem keptB_fam (P:Program) (b:Nat) (o:Oper):(keptB P b o).st≠0→(keptB P b o).fam=b:=by
 unfold keptB
 split
 ·split
  ·intro _; rfl
  ·intro h; exact absurd rfl h
 ·intro h; exact absurd rfl h
theorem kept_rid {P:Program} {ops:List Oper} {base:Option Nat} {i:Nat} {o:Oper} (K:Kept P ops base i F H) (ho:ops[i]? = some o) {n:Nat} (hn:n=ops.length) {F0:Nat→Prop} {φ0:List Nat}
  (I:Inv φ F (fun c=>G c∨Rs base n (i+1) c) H h) (hG:∀ B,base=some B→¬ G (B+i)) (hS:∀ B,base=some B→∀ j e b,h[j]? = some (e,b)→Own b→φ.getD j 0≠B+i)
  (hz:∀ t,o.op=.alloc t→∃ z,zeroO P t=some z):RidOk P φ F (fun c=>G c∨Rs base n (i+1) c) H h o.op (base.map (· + i)):=by
 cases base with
 | none =>
  have:∀ q:Op,RidOk P φ F (fun c=>G c∨Rs none n (i+1) c) H h q none:=by
   intro q
   cases q <;> exact fun r hr=>by cases hr
  exact this o.op
 | some B =>
  obtain ⟨k1,k2,k3⟩:=K B rfl i o ho (Nat.le_refl _)
  have nG:¬ (G (B+i)∨Rs (some B) n (i+1) (B+i)):=by
   rintro (hg | hg)
   ·exact hG B rfl hg
   ·simp only [Rs] at hg; omega
  have un:(∀ t,o.op≠.alloc t)→UnbO (fun c=>G c∨Rs (some B) n (i+1) c) H (some (B+i)):=by
   intro hna r hr
   cases hr
   refine ⟨⟨unborn,?_,rfl,rfl⟩,nG,k2⟩
   rw [k1]
   unfold keptB
   split
   ·rename_i t ht; exact absurd ht (hna t)
   ·rfl
  show RidOk P φ F _ H h o.op (some (B+i))
  cases hop:o.op
  case alloc t =>
   obtain ⟨z,hz⟩:=hz t hop
   refine ⟨⟨AH.get_lt k1,k3,nG,hS B rfl,k2⟩,z,hz,?_⟩
   rw [k1]
   unfold keptB
   rw [hop]
   dsimp only
   rw [hz]
  all_goals exact un (by intro t e; rw [hop] at e; cases e)
theorem yielded_cond {ops:Array Oper} {env:Env} {a:List Value} (e:EnvR φ F H h env a) {j:Nat} {b:Bool} (hc:condV ops.toList env j=.d (.bool b)):yieldedA ops a j=some b:=by
 unfold condV at hc
 unfold yieldedA
 rw [Array.getElem?_toList] at hc
 split at hc
 ·rename_i o ho
  rw [ho]
  split at hc
  ·rename_i t ht
   have:=e t
   rw [hc,rv_bool,getT_eq,List.getD_eq_getElem?_getD] at this
   simp only [Option.bind_some,ht]
   cases hq:a[t]? with
   | none=>rw [hq] at this; cases this
   | some v=>rw [hq] at this; simp only [Option.getD_some] at this; rw [this]
  ·cases hc
 ·cases hc
theorem rv_undef (φ:List Nat) (F:Nat→Prop) (H:AH) (h:Hp):RV φ F H h (.tup []) undef:=by
 simp only [RV]; exact ⟨[],rfl,rfl⟩
theorem yielded_undef {ops:Array Oper} {env:Env} {a:List Value} (e:EnvR φ F H h env a) {j:Nat} (hc:condV ops.toList env j=.tup []):yieldedA ops a j=none:=by
 unfold condV at hc
 unfold yieldedA
 rw [Array.getElem?_toList] at hc
 split at hc
 ·rename_i o ho
  rw [ho]
  split at hc
  ·rename_i t ht
   have:=e t
   rw [hc,getT_eq,List.getD_eq_getElem?_getD] at this
   simp only [RV] at this
   obtain ⟨ws,hw,_⟩:=this
   simp only [Option.bind_some,ht]
   cases hq:a[t]? with
   | none=>rfl
   | some v=>rw [hq] at hw; simp only [Option.getD_some] at hw; rw [hw]
  ·cases hc
 ·cases hc
theorem list_sim (hY:YOk Y) {C:CC} (hC:COk Y C) {nt:Nat} {ops:Array Oper} (hops:∀ o ∈ ops.toList,okOp Y nt o=true) {dr:Bool} {base:Option Nat} (hdr:base.isSome=dr) (hchk:dr=true→okDr Y.X.P ops=true)
  {k:Env→Hp→Prop}:∀ (l:List Oper) (i:Nat) (acts:List Act) (φ:List Nat) (F:Nat→Prop) (H:AH) (h:Hp) (env:Env) (a:List Value),
  (∀ j,l[j]? = ops.toList[i+j]?)→nt≤a.length→GlobR Y F H→Inv φ F (fun c=>G c∨Rs base ops.toList.length i c) H h→(∀ B,base=some B→∀ c,G c→c < B)→Kept Y.X.P ops.toList base i F H→EnvR φ F H h env a →
  rgn Y C dr ops acts l env h k →
  ∃ n a' H' env' h' φ' F',runL Y.X (callN Y.X n) ops base i l a H=some (a',H')∧k env' h'∧Inv φ' F' G H' h'∧Stp G φ F H h φ' F' H' h'∧EnvR φ' F' H' h' env' a'∧a'.length=a.length
 | [],i,acts,φ,F,H,h,env,a,hl,hnt,g,I,hB,K,e,hk=>by
  refine ⟨0,a,H,env,h,φ,F,rfl,by simpa only [rgn] using hk,?_,Stp.refl ..,e,rfl⟩
  have hi:ops.toList.length≤i:=by
   have:=hl 0
   simpa using this
  refine I.weakG (fun c hc=>.inl hc) fun r hr hn=>?_
  rcases hr with hr | hr
  ·exact absurd hr hn
  ·unfold Rs at hr
   split at hr
   ·exact hr.elim
   ·omega
 | o :: l,i,acts,φ,F,H,h,env,a,hl,hnt,g,I,hB,K,e,hk=>by
  have hoi:ops.toList[i]? = some o:=by have:=hl 0; simpa using this.symm
  have hmem:o ∈ ops.toList:=List.mem_of_getElem? hoi
  have ho:=hops o hmem
  have hi:i < ops.toList.length:=lt_of_get hoi
  have hdst:∀ t,o.dst=some t→t < a.length:=by
   intro t ht
   simp only [okOp,ht,Bool.and_eq_true,decide_eq_true_eq] at ho
   exact Nat.lt_of_lt_of_le ho.1.1 hnt
  -- what is kept for this operation leaves the ward
  have I':Inv φ F (fun c=>G c∨Rs base ops.toList.length (i+1) c) H h:=by
   refine I.weakG (fun c hc=>hc.imp id fun hr=>?_) fun r hr hn=>?_
   ·unfold Rs at hr ⊢
    split <;> simp_all <;> omega
   ·rcases hr with hr | hr
    ·exact absurd (.inl hr) hn
    ·unfold Rs at hr hn
     cases base with
     | none=>exact hr.elim
     | some B =>
      simp only at hr hn
      have:r=B+i:=by
       have:=fun hh=>hn (.inr hh)
       omega
      subst this
      obtain ⟨k1,k2,_⟩:=K B rfl i o hoi (Nat.le_refl _)
      refine ⟨k2,fun x hx h0=>?_⟩
      rw [k1] at hx; cases hx
      exact keptB_fam _ _ _ h0
  have R:RidOk Y.X.P φ F (fun c=>G c∨Rs base ops.toList.length (i+1) c) H h o.op (base.map (· + i)):=by
   refine kept_rid K hoi rfl (F0:=F) (φ0:=φ) I' (fun B hb hg=>?_) (fun B hb j e' b hj hob=>?_) fun t ht=>?_
   ·have:=hB B hb _ hg; omega
   ·have:=(I.priv j e' b hj hob (B+i) (.inr (.inr (by subst hb; simp only [Rs]; omega)))).1
    exact fun e=>this e.symm
   ·simp only [okOp,ht,Bool.and_eq_true] at ho
    obtain ⟨z,_,hz,_⟩:=ty_zero Y hY ho.2.1
    exact ⟨z,hz⟩
  have next:∀ {φ1 F1 H1 h1 env1} {a1:List Value},Inv φ1 F1 (fun c=>G c∨Rs base ops.toList.length (i+1) c) H1 h1→Stp (fun c=>G c∨Rs base ops.toList.length (i+1) c) φ F H h φ1 F1 H1 h1 →
    EnvR φ1 F1 H1 h1 env1 a1→a1.length=a.length→rgn Y C dr ops (actR (takes o.op) acts) l env1 h1 k →
    ∃ n a' H' env' h' φ' F',runL Y.X (callN Y.X n) ops base (i+1) l a1 H1=some (a',H')∧k env' h'∧Inv φ' F' G H' h'∧Stp G φ F H h φ' F' H' h'∧EnvR φ' F' H' h' env' a'∧a'.length=a.length:=by
   intro φ1 F1 H1 h1 env1 a1 I1 S1 e1 hlen hk1
   have K1:Kept Y.X.P ops.toList base (i+1) F1 H1:=by
    intro B hb j q hq hij
    obtain ⟨k1,k2,k3⟩:=K B hb j q hq (by omega)
    have hr:Rs base ops.toList.length (i+1) (B+j):=by subst hb; simp only [Rs]; have:=lt_of_get hq; omega
    refine ⟨by rw [S1.keep _ (.inr (.inr hr))]; exact k1,S1.nokin _ (.inr hr) k2,fun hF=>?_⟩
    rcases S1.fn _ hF with hF | hF
    ·exact k3 hF
    ·exact hF (.inr hr)
   obtain ⟨n,a',H',env',h',φ',F',q1,q2,q3,q4,q5,q6⟩:=list_sim hY hC hops hdr hchk l (i+1) _ φ1 F1 H1 h1 env1 a1 (fun j=>by
    have:=hl (j+1)
    rw [List.getElem?_cons_succ] at this
    rw [this]; congr 1; omega) (by omega) (g.mono S1.leF) I1 hB K1 e1 hk1
   exact ⟨n,a',H',env',h',φ',F',q1,q2,q3,(S1.weakG fun c hc=>.inl hc).trans q4,q5,by omega⟩
  have run:∀ {kk:V→Hp→Prop},opD Y C (drA Y.X.P dr ops o l) (act1 (takes o.op) acts) o env h kk→Region.wanted o (yieldedA ops a)=true →
    ∃ n v h1 φ1 F1 w H1,stepO Y.X (callN Y.X n) ops base i o a H=some (fput a o.dst w,H1)∧kk v h1∧Inv φ1 F1 (fun c=>G c∨Rs base ops.toList.length (i+1) c) H1 h1 ∧
     Stp (fun c=>G c∨Rs base ops.toList.length (i+1) c) φ F H h φ1 F1 H1 h1∧RV φ1 F1 H1 h1 v w:=by
   intro kk hop hw
   obtain ⟨n,v,h1,φ1,F1,w,H1,q1,q2,q3,q4,q5,q6⟩:=op_sim hY hC g I' ho e R hop
   refine ⟨n,v,h1,φ1,F1,w,H1,?_,q2,q3,q4,q5⟩
   unfold stepO
   rw [if_pos hw]
   unfold dop
   rw [q1]
   simp only
   rw [if_neg]
   intro hc
   simp only [Bool.and_eq_true,Bool.not_eq_true'] at hc
   obtain ⟨⟨hb,hch⟩,hpre⟩:=hc
   have hd:dr=true:=by rw [← hdr]; exact hb
   have hidx:ops.size - (l.length+1)=i:=by
    have h0:=lt_of_get hoi
    have h1:=hl l.length
    have h2:=hl (l.length+1)
    rw [List.getElem?_eq_none (by simp)] at h2
    have h3:=(List.getElem?_eq_none_iff.1 h2.symm)
    rw [List.getElem?_eq_getElem (by simp)] at h1
    have h4:=lt_of_get h1.symm
    have h5:ops.toList.length=ops.size:=Array.length_toList
    omega
   have hda:drA Y.X.P dr ops o l=true:=by unfold drA; rw [hd,hidx,hch]; rfl
   have:=List.all_eq_true.1 (hchk hd) (o,i) (List.mk_mem_zipIdx_iff_getElem?.2 hoi)
   simp only [hch,Bool.not_true,Bool.false_or,Bool.or_eq_true] at this
   rw [preB_of I.wf q3.wf q4.n (q6 ⟨hda,this⟩)] at hpre
   cases hpre
  have fin:∀ {kk:V→Hp→Prop},(∀ v h1,kk v h1→rgn Y C dr ops (actR (takes o.op) acts) l (putO env o.dst v) h1 k)→opD Y C (drA Y.X.P dr ops o l) (act1 (takes o.op) acts) o env h kk→Region.wanted o (yieldedA ops a)=true →
    ∃ n a' H' env' h' φ' F',runL Y.X (callN Y.X n) ops base i (o :: l) a H=some (a',H')∧k env' h'∧Inv φ' F' G H' h'∧Stp G φ F H h φ' F' H' h'∧EnvR φ' F' H' h' env' a'∧a'.length=a.length:=by
   intro kk hkk hop hw
   obtain ⟨n,v,h1,φ1,F1,w,H1,q1,q2,q3,q4,q5⟩:=run hop hw
   have hlen:(fput a o.dst w).length=a.length:=by unfold fput; split <;> simp
   obtain ⟨m,a',H',env',h',φ',F',r1,r2,r3,r4,r5,r6⟩:=next q3 q4 ((e.mono q4.leF q4.sl).put hdst q5) hlen (hkk v h1 q2)
   refine ⟨max n m,a',H',env',h',φ',F',?_,r2,r3,r4,r5,r6⟩
   unfold runL
   rw [stepO_more (callN_le _ (Nat.le_max_left n m)) q1]
   exact runL_more (callN_le _ (Nat.le_max_right n m)) r1
  unfold rgn at hk
  split at hk
  ·rename_i hg
   exact fin (fun v h1 hv=>hv) hk (by unfold Region.wanted; rw [hg])
  ·rename_i j w hg
   unfold gd at hk
   split at hk
   ·rename_i b hb
    have hy:=yielded_cond e hb
    split at hk
    ·rename_i hbw
     refine fin (fun v h1 hv=>hv) hk ?_
     unfold Region.wanted
     rw [hg]
     simp [hy,hbw]
    ·rename_i hbw
     have hw:Region.wanted o (yieldedA ops a)=false:=by
      unfold Region.wanted
      rw [hg]
      simp only [hy]
      simpa using hbw
     have hlen:(fput a o.dst undef).length=a.length:=by unfold fput; split <;> simp
     obtain ⟨m,a',H',env',h',φ',F',r1,r2,r3,r4,r5,r6⟩:=next I' (Stp.refl ..) (e.put hdst (rv_undef φ F H h)) hlen hk
     refine ⟨m,a',H',env',h',φ',F',?_,r2,r3,r4,r5,r6⟩
     unfold runL stepO
     rw [if_neg (by simp [hw])]
     exact r1
   ·rename_i hb
    have hy:=yielded_undef e hb
    have hw:Region.wanted o (yieldedA ops a)=false:=by
     unfold Region.wanted
     rw [hg]
     simp [hy]
    have hlen:(fput a o.dst undef).length=a.length:=by unfold fput; split <;> simp
    obtain ⟨m,a',H',env',h',φ',F',r1,r2,r3,r4,r5,r6⟩:=next I' (Stp.refl ..) (e.put hdst (rv_undef φ F H h)) hlen hk
    refine ⟨m,a',H',env',h',φ',F',?_,r2,r3,r4,r5,r6⟩
    unfold runL stepO
    rw [if_neg (by simp [hw])]
    exact r1
   ·exact hk.elim
end
end Go.Vm
namespace Go.Vm
open Go Go.Am
def keepE (env:Env) (ks:List Nat):Env:=ks.map fun t=>(t,lk env t)
def putE (env:Env):List Nat→Nat→List V→Env
 | [],_,_=>env
 | t :: ts,i,vs=>putE ((t,ge vs i) :: env) ts (i+1) vs
theorem keepK_eq (env:Env):∀ (ks:List Nat) (k:Env→Prop),keepK env ks k=k (keepE env ks)
 | [],_=>rfl
 | t :: ts,k=>by simp only [keepK,lkK_eq,keepK_eq env ts,keepE,List.map_cons]
theorem putK_eq:∀ (ts:List Nat) (env:Env) (i:Nat) (vs:List V) (k:Env→Prop),putK env ts i vs k=k (putE env ts i vs)
 | [],_,_,_,_=>rfl
 | t :: ts,env,i,vs,k=>by simp only [putK,putE]; exact putK_eq ts _ _ vs k
theorem lk_keepE (env:Env) (ks:List Nat) (t:Nat):lk (keepE env ks) t=.junk∨(t ∈ ks∧lk (keepE env ks) t=lk env t):=by
 induction ks with
 | nil=>exact .inl rfl
 | cons s ks ih =>
  show lk ((s,lk env s) :: keepE env ks) t=.junk∨_∧lk ((s,lk env s) :: keepE env ks) t=_
  rw [lk_cons]
  split
  ·rename_i h; subst h; exact .inr ⟨by simp,rfl⟩
  ·rcases ih with h | ⟨h1,h2⟩
   ·exact .inl h
   ·exact .inr ⟨by simp [h1],h2⟩
theorem lk_putE:∀ (ts:List Nat) (env:Env) (i:Nat) (vs:List V) (t:Nat),lk (putE env ts i vs) t=lk env t∨∃ j,ts[j]? = some t∧lk (putE env ts i vs) t=ge vs (i+j)
 | [],_,_,_,_=>.inl rfl
 | s :: ts,env,i,vs,t=>by
  rcases lk_putE ts ((s,ge vs i) :: env) (i+1) vs t with h | ⟨j,h1,h2⟩
  ·rw [lk_cons] at h
   split at h
   ·rename_i e; subst e; exact .inr ⟨0,rfl,h⟩
   ·exact .inl h
  ·exact .inr ⟨j+1,h1,by rw [show i+(j+1)=i+1+j by omega]; exact h2⟩
theorem ge_map (l:List Nat) (env:Env) (j t:Nat) (h:l[j]? = some t):ge (l.map (lk env)) j=lk env t:=by
 induction l generalizing j with
 | nil=>simp at h
 | cons s l ih =>
  cases j with
  | zero=>simp only [List.getElem?_cons_zero,Option.some.injEq] at h; subst h; rfl
  | succ j=>simp only [List.getElem?_cons_succ] at h; exact ih j h
section
variable {Y:VCfg} {φ:List Nat} {F G:Nat→Prop} {H:AH} {h:Hp}
theorem EnvR.join {env env1:Env} {outs keep:List Nat} {a:List Value} (h1:∀ t ∈ keep,RV φ F H h (lk env t) (getT a t)) {vs:List V} (h2:∀ j t,outs[j]? = some t→RV φ F H h (ge vs j) (getT a t)) :
  EnvR φ F H h (putE (keepE env keep) outs 0 vs) a:=by
 intro t
 rcases lk_putE outs (keepE env keep) 0 vs t with e | ⟨j,hj,e⟩
 ·rw [e]
  rcases lk_keepE env keep t with e | ⟨hk,e⟩
  ·rw [e]; simp only [RV]
  ·rw [e]; exact h1 t hk
 ·rw [e,Nat.zero_add]; exact h2 j t hj
theorem noneIn_not {as l:List Nat} (hn:noneIn as l=true) {t:Nat} (ht:t ∈ l):t ∉ as:=by
 induction l with
 | nil=>cases ht
 | cons s l ih =>
  simp only [noneIn,Bool.and_eq_true,Bool.not_eq_true',List.any_eq_false] at hn
  rcases List.mem_cons.1 ht with rfl | ht
  ·exact fun hm=>hn.1 t hm (Nat.beq_refl t)
  ·exact ih hn.2 ht
theorem stepO_asg {X:Cfg} {cf:CallF} {ops:Array Oper} {base:Option Nat} {i:Nat} {o:Oper} {a a':List Value} {H H':AH} (h:stepO X cf ops base i o a H=some (a',H')) (t:Nat) (ht:∀ d,o.dst=some d→t≠d):getT a' t=getT a t:=by
 have hp:∀ v,getT (fput a o.dst v) t=getT a t:=by
  intro v
  unfold fput
  split
  ·rename_i d hd
   rw [getT_eq,getT_eq,List.getD_eq_getElem?_getD,List.getD_eq_getElem?_getD,List.getElem?_set_ne (fun e=>ht d hd e.symm)]
  ·rfl
 unfold stepO at h
 split at h
 ·split at h
  ·cases h; exact hp _
  ·cases h
 ·cases h; exact hp _
theorem runL_asg {X:Cfg} {cf:CallF} {ops:Array Oper} {base:Option Nat}:∀ {l:List Oper} {i:Nat} {a a':List Value} {H H':AH},runL X cf ops base i l a H=some (a',H')→∀ t,t ∉ asgO l→getT a' t=getT a t
 | [],_,_,_,_,_,h,_,_=>by cases h; rfl
 | o :: l,i,a,a',H,H',h,t,ht=>by
  unfold runL at h
  split at h
  ·rename_i a1 H1 hs
   have hd:(∀ d,o.dst=some d→t≠d)∧t ∉ asgO l:=by
    unfold asgO at ht
    split at ht
    ·rename_i d hd
     simp only [List.mem_cons,not_or] at ht
     exact ⟨fun d' h'=>(by rw [hd] at h'; cases h'; exact ht.1),ht.2⟩
    ·rename_i hd
     exact ⟨fun d' h'=>(by rw [hd] at h'; cases h'),ht⟩
   rw [runL_asg h t hd.2]
   exact stepO_asg hs t hd.1
  ·cases h
theorem region_asg {X:Cfg} {cf:CallF} {ops:Array Oper} {draw:Bool} {a a':List Value} {H H':AH} (h:runRegion X cf ops draw a H=some (a',H')) (t:Nat) (ht:t ∉ asgO ops.toList):getT a' t=getT a t:=by
 unfold runRegion at h
 split at h <;> exact runL_asg h t ht
theorem pushA_wf (P:Program):∀ (l:List Oper) (H:AH),WF H→WF (pushA P l H)
 | [],_,w=>w
 | o :: l,H,w=>by
  refine pushA_wf P l _ (w.push ?_)
  unfold keptB
  split
  ·split
   ·exact Nat.le_refl _
   ·exact Nat.zero_le _
  ·exact Nat.zero_le _
theorem region_sim (hY:YOk Y) {C:CC} (hC:COk Y C) {nt:Nat} {ops:Array Oper} (hops:∀ o ∈ ops.toList,okOp Y nt o=true) {draw:Bool} (hchk:draw=true→okDr Y.X.P ops=true)
  {k:Env→Hp→Prop} {acts:List Act} {env:Env} {a:List Value} (hnt:nt≤a.length) (g:GlobR Y F H) (I:Inv φ F G H h) (e:EnvR φ F H h env a) (hk:rgn Y C draw ops acts ops.toList env h k) :
  ∃ n a' H' env' h' φ' F',runRegion Y.X (callN Y.X n) ops draw a H=some (a',H')∧k env' h'∧Inv φ' F' G H' h'∧Stp G φ F H h φ' F' H' h'∧EnvR φ' F' H' h' env' a'∧a'.length=a.length:=by
 cases draw with
 | false =>
  obtain ⟨n,a',H',env',h',φ',F',q1,q⟩:=list_sim (G:=G) hY hC hops (dr:=false) (base:=none) rfl (fun h=>by cases h) ops.toList 0 acts φ F H h env a (fun j=>by simp) hnt g (by
   have:(fun c=>G c∨Rs none ops.toList.length 0 c)=G:=by funext c; simp [Rs]
   rw [this]; exact I) (fun B hB=>by cases hB) (fun B hB=>by cases hB) e hk
  exact ⟨n,a',H',env',h',φ',F',by unfold runRegion; rw [if_neg (by simp)]; exact q1,q⟩
 | true =>
  have hget:∀ b x,H.get b=some x→(pushA Y.X.P ops.toList H).get b=some x:=fun b x hx=>pushA_get (X:=Y.X) ops.toList H b x hx
  have hn:(pushA Y.X.P ops.toList H).n=H.n+ops.toList.length:=pushA_n (X:=Y.X) ops.toList H
  have hat:∀ i o,ops.toList[i]? = some o→(pushA Y.X.P ops.toList H).get (H.n+i)=some (keptB Y.X.P (H.n+i) o):=fun i o ho=>pushA_at (X:=Y.X) ops.toList H i o ho
  have hw:=pushA_wf Y.X.P ops.toList H I.wf
  have hold:∀ c,c < H.n→(pushA Y.X.P ops.toList H).get c=H.get c:=fun c hc=>by
   obtain ⟨x,hx⟩:=I.wf.get_some hc
   rw [hx]; exact hget c x hx
  have hnew:∀ c x,H.n≤c→(pushA Y.X.P ops.toList H).get c=some x→x.st≠0→x.fam=c:=fun c x hc hx h0=>by
   have:=AH.get_lt hx
   rw [hn] at this
   obtain ⟨o,ho⟩:∃ o,ops.toList[c - H.n]? = some o:=⟨_,List.getElem?_eq_getElem (by omega)⟩
   have:=hat _ o ho
   rw [show H.n+(c - H.n)=c by omega,hx] at this
   cases this
   exact keptB_fam _ _ _ h0
  have hnk:∀ r,NoKin H r→NoKin (pushA Y.X.P ops.toList H) r:=fun r hr c x hx h0 hc=>by
   by_cases hcn:c < H.n
   ·rw [hold c hcn] at hx; exact hr c x hx h0 hc
   ·rw [hnew c x (by omega) hx h0]; exact hc
  have hnk2:∀ j,NoKin (pushA Y.X.P ops.toList H) (H.n+j):=fun j c x hx h0 hc=>by
   by_cases hcn:c < H.n
   ·have:=hw.fam c x hx; omega
   ·rw [hnew c x (by omega) hx h0]; exact hc
  have hle:LeF F F H (pushA Y.X.P ops.toList H):=⟨fun _ hc=>hc,fun c hc=>hold c (I.lt c (.inl hc)),fun c x hx h0=>⟨x,hget c x hx,h0⟩⟩
  have hS:Stp G φ F H h φ F (pushA Y.X.P ops.toList H) h :=
   ⟨by omega,fun c hc=>hold c (I.lt c hc),fun _ hc=>hc,fun _ hc=>.inl hc,hle.born,fun r _=>hnk r,rfl,SlLe.refl φ h⟩
  have kO:∀ i e k,h[i]? = some (e,k)→Own k→(pushA Y.X.P ops.toList H).get (φ.getD i 0)=H.get (φ.getD i 0)∧φ.getD i 0 < H.n:=fun i e k hi ho=>by
   obtain ⟨x,hx,_⟩:=I.own_get hi ho
   exact ⟨hold _ (AH.get_lt hx),AH.get_lt hx⟩
  have hI:Inv φ F (fun c=>G c∨Rs (some H.n) ops.toList.length 0 c) (pushA Y.X.P ops.toList H) h:=by
   refine ⟨I.len,?_,?_,fun c hc=>by rw [hold c (I.lt c (.inl hc))]; exact I.fb c hc,?_,?_,?_,hw⟩
   ·intro i e k hi
    by_cases ho:Own k
    ·exact (I.blk i e k hi).mono hle (SlLe.refl φ h) (kO i e k hi ho).1
    ·cases k with
     | none=>trivial
     | vars cs=>exact absurd trivial ho
     | data n cs ex fr =>
      cases fr with
      | false=>exact absurd rfl ho
      | true=>exact (I.blk i e _ hi).mono hle (SlLe.refl φ h) (hold _ (I.lt _ (.inl (frozen_F I hi))))
   ·rintro c (hc | hc | hc)
    ·have:=I.lt c (.inl hc); omega
    ·have:=I.lt c (.inr hc); omega
    ·simp only [Rs] at hc; omega
   ·intro i e k hi ho c hc
    obtain ⟨k1,k2⟩:=kO i e k hi ho
    have old:F c∨G c→c≠φ.getD i 0∧∀ x y,(pushA Y.X.P ops.toList H).get c=some x→(pushA Y.X.P ops.toList H).get (φ.getD i 0)=some y→x.st=1→x.fam≠y.fam:=fun hc=>by
     obtain ⟨p1,p2⟩:=I.priv i e k hi ho c hc
     exact ⟨p1,fun x y hx hy=>p2 x y (by rw [← hold c (I.lt c hc)]; exact hx) (by rw [← k1]; exact hy)⟩
    rcases hc with hc | hc | hc
    ·exact old (.inl hc)
    ·exact old (.inr hc)
    ·simp only [Rs] at hc
     refine ⟨by omega,fun x y hx hy h1=>?_⟩
     rw [hnew c x (by omega) hx (by omega)]
     rw [k1] at hy
     have:=I.wf.fam _ y hy
     omega
   ·intro i e k j e' k' hi ho hj ho' hij
    obtain ⟨p1,p2⟩:=I.inj i e k j e' k' hi ho hj ho' hij
    exact ⟨p1,fun x y hx hy=>p2 x y (by rw [← (kO i e k hi ho).1]; exact hx) (by rw [← (kO j e' k' hj ho').1]; exact hy)⟩
   ·intro c x q y hx h0 hc hq hy hy0
    have hcn:c < H.n:=by
     have:=AH.get_lt hx
     rw [hn] at this
     exact Classical.byContradiction fun hh=>hc (.inr (by simp only [Rs]; omega))
    rw [hold c hcn] at hx
    rcases hq with hq | hq
    ·rw [hold q (I.lt q (.inr hq))] at hy
     exact I.sep c x q y hx h0 (fun hG=>hc (.inl hG)) hq hy hy0
    ·simp only [Rs] at hq
     rw [hnew q y (by omega) hy hy0]
     have:=I.wf.fam c x hx
     omega
  obtain ⟨n,a',H',env',h',φ',F',q1,q2,q3,q4,q5,q6⟩:=list_sim (G:=G) hY hC hops (dr:=true) (base:=some H.n) rfl hchk ops.toList 0 acts φ F (pushA Y.X.P ops.toList H) h env a (fun j=>by simp) hnt (g.mono hle) hI
   (fun B hB c hc=>by cases hB; exact I.lt c (.inr hc)) (fun B hB j o ho _=>by
    cases hB
    exact ⟨hat j o ho,hnk2 j,fun hF=>by have:=I.lt _ (.inl hF); omega⟩) (e.mono hle (SlLe.refl φ h)) hk
  exact ⟨n,a',H',env',h',φ',F',by unfold runRegion; rw [if_pos rfl]; exact q1,q2,q3,hS.trans q4,q5,q6⟩
end
end Go.Vm
namespace Go.Vm
open Go Go.Am
section
variable {Y:VCfg} {φ:List Nat} {F G:Nat→Prop} {H:AH} {h:Hp}
theorem notIn_mem {l:List Nat} {s:Nat}:notIn l s=true↔s ∉ l:=by
 induction l with
 | nil=>simp [notIn]
 | cons t l ih =>
  simp only [notIn,Bool.and_eq_true,Bool.not_eq_true',ih,List.mem_cons,not_or]
  constructor
  ·rintro ⟨h1,h2⟩; exact ⟨fun e=>(by subst e; rw [Nat.beq_refl] at h1; cases h1),h2⟩
  ·rintro ⟨h1,h2⟩
   refine ⟨?_,h2⟩
   cases hb:Nat.beq t s with
   | false=>rfl
   | true=>exact absurd (Nat.eq_of_beq_eq_true hb).symm h1
theorem resetGo_get (clr:List Nat):∀ (i:Nat) (h0 h:Hp) (j:Nat),(resetGo clr i h0 h)[j]? = match h0[j]?,h[j]? with
  | some (e0,_),some (e,b)=>some (if notIn clr (i+j) then (e,b) else (e0,.none))
  | none,x=>x
  | _,none=>none
 | _,[],h,j=>by simp [resetGo]
 | _,(_,_) :: _,[],j=>by
  simp only [resetGo,List.getElem?_nil]
  split <;> first | rfl | simp_all
 | i,(e0,b0) :: h0,(e,b) :: h,0=>by simp [resetGo]
 | i,(e0,b0) :: h0,(e,b) :: h,j+1=>by
  simp only [resetGo,List.getElem?_cons_succ]
  rw [resetGo_get clr (i+1) h0 h j,show i+1+j=i+(j+1) by omega]
theorem reset_get {clr:List Nat} {h0 h:Hp} (hl:h.length=h0.length) {j e:Nat} {b:Bk} (hj:h[j]? = some (e,b)) :
  (j ∉ clr∧(resetGo clr 0 h0 h)[j]? = some (e,b))∨(j ∈ clr∧∃ e0 b0,h0[j]? = some (e0,b0)∧(resetGo clr 0 h0 h)[j]? = some (e0,.none)):=by
 have hlt:=lt_of_get hj
 obtain ⟨e0,b0⟩:Nat × Bk:=h0[j]'(by omega)
 rw [resetGo_get]
 cases h0j:h0[j]? with
 | none=>rw [List.getElem?_eq_none_iff] at h0j; omega
 | some p =>
  obtain ⟨e0,b0⟩:=p
  rw [hj]
  simp only [Nat.zero_add]
  by_cases hc:j ∈ clr
  ·right
   refine ⟨hc,e0,b0,rfl,?_⟩
   rw [if_neg (by rw [notIn_mem]; exact fun h=>h hc)]
  ·left
   exact ⟨hc,by rw [if_pos (notIn_mem.2 hc)]⟩
theorem resetGo_length (clr:List Nat):∀ (i:Nat) (h0 h:Hp),h.length=h0.length→(resetGo clr i h0 h).length=h0.length
 | _,[],h,e=>by simpa [resetGo] using e
 | _,_ :: _,[],e=>by simp at e
 | i,(_,_) :: h0,(_,_) :: h,e=>by simp only [resetGo,List.length_cons] at e ⊢; rw [resetGo_length clr (i+1) h0 h (by omega)]
theorem reset_none {clr:List Nat} {h0 h:Hp} (hl:h.length=h0.length) {j:Nat} (hj:h[j]? = none):(resetGo clr 0 h0 h)[j]? = none:=by
 rw [List.getElem?_eq_none_iff] at hj ⊢
 rw [resetGo_length clr 0 h0 h hl]; omega
theorem reset_same {clr:List Nat} {h0 h:Hp} (hl:h.length=h0.length) {s:Nat} (hs:s ∉ clr):(resetGo clr 0 h0 h)[s]? = h[s]?:=by
 cases hj:h[s]? with
 | none=>exact reset_none hl hj
 | some p =>
  obtain ⟨e,b⟩:=p
  rcases reset_get hl hj (clr:=clr) with ⟨_,e⟩ | ⟨hc,_⟩
  ·exact e
  ·exact absurd hc hs
mutual
theorem RV.reset {clr:List Nat} {h0:Hp} (hl:h.length=h0.length):∀ (x:V) (v:Value),offS clr x=true→RV φ F H h x v→RV φ F H (resetGo clr 0 h0 h) x v
 | .junk,_,_,_=>by simp only [RV]
 | .d x,v,_,hv=>by simpa only [RV] using hv
 | .ref s e off len cap tot,v,ho,hv=>by
  simp only [offS] at ho
  have hs:=reset_same (h0:=h0) hl (notIn_mem.1 ho)
  simp only [RV,ep,hget,hs] at hv ⊢
  exact hv
 | .ptr s e off tot,v,ho,hv=>by
  simp only [offS] at ho
  have hs:=reset_same (h0:=h0) hl (notIn_mem.1 ho)
  simp only [RV,ep,hget,hs] at hv ⊢
  exact hv
 | .dptr cs pos,v,_,hv=>by simpa only [RV] using hv
 | .cut n,v,_,hv=>by simpa only [RV] using hv
 | .agg l,v,ho,hv=>by
  simp only [offS] at ho
  simp only [RV] at hv ⊢
  obtain ⟨ws,e,r⟩:=hv
  exact ⟨ws,e,RVs.reset hl l ws ho r⟩
 | .tup l,v,ho,hv=>by
  simp only [offS] at ho
  simp only [RV] at hv ⊢
  obtain ⟨ws,e,r⟩:=hv
  exact ⟨ws,e,RVs.reset hl l ws ho r⟩
 | .fn g fs cs,v,ho,hv=>by
  simp only [offS,Bool.and_eq_true] at ho
  simp only [RV] at hv ⊢
  obtain ⟨a,b,e,r,q⟩:=hv
  exact ⟨a,b,e,RVs.reset hl fs a ho.1 r,RVs.reset hl cs b ho.2 q⟩
 | .ifc t x,v,ho,hv=>by
  simp only [offS] at ho
  simp only [RV] at hv ⊢
  obtain ⟨w,e,r⟩:=hv
  exact ⟨w,e,RV.reset hl x w ho r⟩
 | .new ..,v,_,hv=>by simp only [RV] at hv
theorem RVs.reset {clr:List Nat} {h0:Hp} (hl:h.length=h0.length):∀ (xs:List V) (vs:List Value),offSs clr xs=true→RVs φ F H h xs vs→RVs φ F H (resetGo clr 0 h0 h) xs vs
 | [],vs,_,hv=>by simpa only [RVs] using hv
 | x :: xs,vs,ho,hv=>by
  simp only [offSs,Bool.and_eq_true] at ho
  simp only [RVs] at hv ⊢
  obtain ⟨v,us,e,h1,h2⟩:=hv
  exact ⟨v,us,e,RV.reset hl x v ho.1 h1,RVs.reset hl xs us ho.2 h2⟩
end
theorem offH_at {clr:List Nat}:∀ {i:Nat} {h:Hp} {j e:Nat} {b:Bk},offH clr i h=true→h[j]? = some (e,b)→i+j ∉ clr→offB clr b=true
 | i,(e1,b1) :: h,0,e,b,ho,hj,hn=>by
  simp only [List.getElem?_cons_zero,Option.some.injEq,Prod.mk.injEq] at hj
  obtain ⟨rfl,rfl⟩:=hj
  simp only [offH,Bool.and_eq_true,Bool.or_eq_true,Bool.not_eq_true'] at ho
  rcases ho.1 with ho | ho
  ·rw [notIn_mem.2 (by simpa using hn)] at ho; cases ho
  ·exact ho
 | i,(e1,b1) :: h,j+1,e,b,ho,hj,hn=>by
  simp only [offH,Bool.and_eq_true] at ho
  simp only [List.getElem?_cons_succ] at hj
  exact offH_at (i:=i+1) ho.2 hj (by rw [show i+1+j=i+(j+1) by omega]; exact hn)
 | _,[],_,_,_,_,hj,_=>by simp at hj
theorem Inv.reset (I:Inv φ F G H h) {clr:List Nat} {h0:Hp} (hl:h.length=h0.length) (ho:offH clr 0 h=true):Inv φ F G H (resetGo clr 0 h0 h):=by
 have hown:∀ i e b,(resetGo clr 0 h0 h)[i]? = some (e,b)→Own b→i ∉ clr∧h[i]? = some (e,b):=by
  intro i e b hi hob
  cases hj:h[i]? with
  | none=>rw [reset_none hl hj] at hi; cases hi
  | some p =>
   obtain ⟨e1,b1⟩:=p
   rcases reset_get hl hj (clr:=clr) with ⟨hn,e2⟩ | ⟨hc,e0,b0,_,e2⟩
   ·rw [e2] at hi; exact ⟨hn,hi⟩
   ·rw [e2] at hi; cases hi; exact hob.elim
 refine ⟨by rw [resetGo_length clr 0 h0 h hl]; exact I.len.trans hl,?_,I.lt,I.fb,?_,?_,I.sep,I.wf⟩
 ·intro i e b hi
  cases hj:h[i]? with
  | none=>rw [reset_none hl hj] at hi; cases hi
  | some p =>
   obtain ⟨e1,b1⟩:=p
   rcases reset_get hl hj (clr:=clr) with ⟨hn,e2⟩ | ⟨hc,e0,b0,_,e2⟩
   ·rw [e2] at hi; cases hi
    have:=I.blk i e b hj
    cases b with
    | none=>trivial
    | vars cs =>
     obtain ⟨x,hx,h1,h2,h3⟩:=this
     exact ⟨x,hx,h1,h2,RVs.reset hl _ _ (offH_at ho hj (by simpa using hn)) h3⟩
    | data n cs ex fr=>exact this
   ·rw [e2] at hi; cases hi; trivial
 ·intro i e b hi hob
  obtain ⟨_,hi⟩:=hown i e b hi hob
  exact I.priv i e b hi hob
 ·intro i e b j e' b' hi hob hj hob' hij
  obtain ⟨_,hi⟩:=hown i e b hi hob
  obtain ⟨_,hj⟩:=hown j e' b' hj hob'
  exact I.inj i e b j e' b' hi hob hj hob' hij
theorem Stp.reset {φ':List Nat} {F':Nat→Prop} {H':AH} {h':Hp} (S:Stp G φ F H h φ' F' H' h') (clr:List Nat):Stp G φ F H h φ' F' H' (resetGo clr 0 h h') where
 n:=S.n
 keep:=S.keep
 fm:=S.fm
 fn:=S.fn
 born:=S.born
 nokin:=S.nokin
 hl:=resetGo_length clr 0 h h' S.hl
 sl s:=by
  obtain ⟨a1,a2⟩:=S.sl s
  by_cases hs:s ∈ clr
  ·cases hj:h'[s]? with
   | none =>
    have:(resetGo clr 0 h h')[s]? = h'[s]?:=by rw [hj]; exact reset_none S.hl hj
    simp only [ep,hget,this] at a1 a2 ⊢
    exact ⟨a1,a2⟩
   | some p =>
    obtain ⟨e,b⟩:=p
    rcases reset_get S.hl hj (clr:=clr) with ⟨hn,_⟩ | ⟨_,e0,b0,h1,h2⟩
    ·exact absurd hs hn
    ·have e1:ep h s=e0:=by simp [ep,h1]
     have e2:ep (resetGo clr 0 h h') s=e0:=by simp [ep,h2]
     refine ⟨by omega,fun _ m hm=>?_⟩
     rw [e1] at hm
     simp [hget,h2,blen] at hm
  ·have:=reset_same (h0:=h) S.hl hs
   simp only [ep,hget,this] at a1 a2 ⊢
   exact ⟨a1,a2⟩
def Sim (X:Cfg) (G:Nat→Prop) (φ:List Nat) (F:Nat→Prop) (H:AH) (h:Hp) (al:List Value) (as:List Nat) (c:Code) (k:K):Prop :=
 ∃ n ex al' H' env' h' φ' F',exec X (callN X n) n c al H=some (ex,al',H')∧k ex env' h'∧Inv φ' F' G H' h'∧Stp G φ F H h φ' F' H' h'∧EnvR φ' F' H' h' env' al'∧al'.length=al.length∧∀ t,t ∉ as→getT al' t=getT al t
theorem wrap_sim {X:Cfg} {al:List Value} {as:List Nat} {c:Code} {i:Info} (hok:okI as i=true) {env:Env} (e:EnvR φ F H h env al) {k:K} {T:K→Prop} (hT:∀ k,T k→Sim X G φ F H h al as c k) (hw:wrap i env k T):Sim X G φ F H h al as c k:=by
 unfold wrap at hw
 split at hw
 ·rename_i outs keep
  obtain ⟨n,ex,al',H',env',h',φ',F',q1,q2,q3,q4,q5,q6,q7⟩:=hT _ hw
  cases ex
  case normal =>
   simp only [keepK_eq,putK_eq] at q2
   refine ⟨n,_,al',H',_,h',φ',F',q1,q2,q3,q4,EnvR.join (env1:=env') (fun t ht=>?_) (fun j t hj=>?_),q6,q7⟩
   ·rw [q7 t (noneIn_not hok ht)]
    exact RV.mono q4.leF q4.sl _ _ (e t)
   ·rw [ge_map outs env' j t hj]; exact q5 t
  all_goals exact ⟨n,_,al',H',env',h',φ',F',q1,q2,q3,q4,q5,q6,q7⟩
 ·exact hT k hw
theorem exK_at {l:List (Exit × List Nat × List Nat)} {f:Exit × List Nat × List Nat→List V→Hp→Prop}:∀ {ex:Exit} {vs:List V} {h:Hp},exK (l.map fun x=>(x.1,f x)) ex vs h→∃ x ∈ l,x.1=ex∧outsOf l ex=x.2.1∧f x vs h:=by
 induction l with
 | nil=>intro ex vs h hx; exact hx.elim
 | cons x l ih =>
  intro ex vs h hx
  obtain ⟨e0,o,kp⟩:=x
  simp only [List.map_cons,exK] at hx
  have heq:exEq e0 ex=true→e0=ex:=by
   intro he
   unfold exEq at he
   split at he
   ·rw [Nat.eq_of_beq_eq_true he]
   ·rfl
   ·cases he
  split at hx
  ·rename_i he
   refine ⟨_,List.mem_cons_self,heq he,?_,hx⟩
   simp only [outsOf,he]
  ·rename_i he
   obtain ⟨y,hy,h1,h2,h3⟩:=ih hx
   exact ⟨y,List.mem_cons_of_mem _ hy,h1,by simp only [outsOf,he]; exact h2,h3⟩
theorem den_sim (hY:YOk Y) {C:CC} (hC:COk Y C) {nt:Nat}:∀ (c:Code) (a:Ann) (env:Env) (k:K) (φ:List Nat) (F:Nat→Prop) (H:AH) (h:Hp) (al:List Value),
  okCodeV Y nt c=true→okAnn Y.X.P c a=true→nt≤al.length→GlobR Y F H→Inv φ F G H h→EnvR φ F H h env al→den Y C c a env h k→Sim Y.X G φ F H h al (asg c) c k
 | .skip,a,env,k,φ,F,H,h,al,_,_,_,_,I,e,hk=>⟨1,.normal,al,H,env,h,φ,F,rfl,hk,I,Stp.refl ..,e,rfl,fun _ _=>rfl⟩
 | .label _,a,env,k,φ,F,H,h,al,_,_,_,_,I,e,hk=>⟨1,.normal,al,H,env,h,φ,F,rfl,hk,I,Stp.refl ..,e,rfl,fun _ _=>rfl⟩
 | .exit id,a,env,k,φ,F,H,h,al,_,_,_,_,I,e,hk=>⟨1,.exit id,al,H,env,h,φ,F,rfl,hk,I,Stp.refl ..,e,rfl,fun _ _=>rfl⟩
 | .ret,a,env,k,φ,F,H,h,al,_,_,_,_,I,e,hk=>⟨1,.ret,al,H,env,h,φ,F,rfl,hk,I,Stp.refl ..,e,rfl,fun _ _=>rfl⟩
 | .region id ops draw,a,env,k,φ,F,H,h,al,hv,ha,hnt,g,I,e,hk=>by
  simp only [okCodeV,List.all_eq_true] at hv
  simp only [okAnn,Bool.or_eq_true,Bool.not_eq_true'] at ha
  have hdead:isDead a.i=false∧rgn Y C draw ops a.i.acts ops.toList env h (k .normal):=by
   unfold den at hk
   split at hk
   ·exact hk.elim
   ·rename_i hne
    refine ⟨?_,hk⟩
    unfold isDead
    split
    ·rename_i hd; exact absurd hd hne
    ·rfl
  obtain ⟨hd0,hk⟩:=hdead
  rw [hd0] at ha
  have hch:draw=true→okDr Y.X.P ops=true:=by
   intro hd
   rcases ha with (h2 | h2) | h2
   ·rw [hd] at h2; cases h2
   ·cases h2
   ·exact h2
  obtain ⟨n,a',H',env',h',φ',F',q1,q2,q3,q4,q5,q6⟩:=region_sim hY hC (draw:=draw) hv hch hnt g I e hk
  refine ⟨n+1,.normal,a',H',env',h',φ',F',?_,q2,q3,q4,q5,q6,fun t ht=>region_asg q1 t ht⟩
  simp only [exec]
  rw [region_more (callN_succ Y.X n) q1]
 | .scope c,a,env,k,φ,F,H,h,al,hv,ha,hnt,g,I,e,hk=>by
  obtain ⟨n,ex,al',H',env',h',φ',F',q1,q⟩:=den_sim hY hC c a.a env k φ F H h al hv ha hnt g I e hk
  refine ⟨n+1,ex,al',H',env',h',φ',F',?_,q⟩
  simp only [exec]
  exact exec_more (callN_succ Y.X n) (Nat.le_refl n) q1
 | .seq x y,a,env,k,φ,F,H,h,al,hv,ha,hnt,g,I,e,hk=>by
  simp only [okCodeV,okAnn,Bool.and_eq_true] at hv ha
  obtain ⟨n,ex,al1,H1,env1,h1,φ1,F1,q1,q2,q3,q4,q5,q6,q7⟩:=den_sim hY hC x a.a env _ φ F H h al hv.1 ha.1 hnt g I e hk
  cases ex
  case normal =>
   obtain ⟨m,ex,al',H',env',h',φ',F',r1,r2,r3,r4,r5,r6,r7⟩:=den_sim hY hC y a.b env1 k φ1 F1 H1 h1 al1 hv.2 ha.2 (by omega) (g.mono q4.leF) q3 q5 q2
   refine ⟨max n m+1,ex,al',H',env',h',φ',F',?_,r2,r3,q4.trans r4,r5,by omega,fun t ht=>?_⟩
   ·simp only [exec]
    rw [exec_more (callN_le Y.X (by omega)) (by omega) q1]
    exact exec_more (callN_le Y.X (by omega)) (by omega) r1
   ·simp only [asg,List.mem_append,not_or] at ht
    rw [r7 t ht.2,q7 t ht.1]
  all_goals
   refine ⟨n+1,_,al1,H1,env1,h1,φ1,F1,?_,q2,q3,q4,q5,q6,fun t ht=>?_⟩
   ·simp only [exec]
    rw [exec_more (callN_le Y.X (by omega)) (Nat.le_refl n) q1]
   ·simp only [asg,List.mem_append,not_or] at ht
    exact q7 t ht.1
 | .cond c x y,a,env,k,φ,F,H,h,al,hv,ha,hnt,g,I,e,hk=>by
  simp only [okCodeV,okAnn,Bool.and_eq_true] at hv ha
  refine wrap_sim ha.1.1 e (fun k hk=>?_) hk
  unfold cnd at hk
  split at hk
  ·rename_i b hb
   have hc:=ev_rel g e hv.1.1
   rw [hb,rv_bool] at hc
   cases b with
   | true =>
    obtain ⟨n,ex,al',H',env',h',φ',F',q1,q2,q3,q4,q5,q6,q7⟩:=den_sim hY hC x a.a env k φ F H h al hv.1.2 ha.1.2 hnt g I e hk
    refine ⟨n+1,ex,al',H',env',h',φ',F',?_,q2,q3,q4,q5,q6,fun t ht=>?_⟩
    ·simp only [exec,hc]
     exact exec_more (callN_succ Y.X n) (Nat.le_refl n) q1
    ·simp only [asg,List.mem_append,not_or] at ht
     exact q7 t ht.1
   | false =>
    obtain ⟨n,ex,al',H',env',h',φ',F',q1,q2,q3,q4,q5,q6,q7⟩:=den_sim hY hC y a.b env k φ F H h al hv.2 ha.2 hnt g I e hk
    refine ⟨n+1,ex,al',H',env',h',φ',F',?_,q2,q3,q4,q5,q6,fun t ht=>?_⟩
    ·simp only [exec,hc]
     exact exec_more (callN_succ Y.X n) (Nat.le_refl n) q1
    ·simp only [asg,List.mem_append,not_or] at ht
     exact q7 t ht.2
  ·exact hk.elim
 | .block id c,a,env,k,φ,F,H,h,al,hv,ha,hnt,g,I,e,hk=>by
  simp only [okCodeV,okAnn,Bool.and_eq_true] at hv ha
  refine wrap_sim (as:=asg c) ha.1 e (fun k hk=>?_) hk
  obtain ⟨n,ex,al',H',env',h',φ',F',q1,q2,q⟩:=den_sim hY hC c a.a env _ φ F H h al hv ha.2 hnt g I e hk
  have run:exec Y.X (callN Y.X (n+1)) (n+1) (.block id c) al H=match ex with
    | .exit j=>some (if j=id then .normal else .exit j,al',H')
    | ex=>some (ex,al',H'):=by
   simp only [exec]
   rw [exec_more (callN_succ Y.X n) (Nat.le_refl n) q1]
   cases ex <;> rfl
  cases ex
  case exit j =>
   unfold blkK at q2
   simp only at q2
   split at q2
   ·rename_i hb
    exact ⟨n+1,.normal,al',H',env',h',φ',F',by rw [run]; simp [Nat.eq_of_beq_eq_true hb],q2,q⟩
   ·rename_i hb
    refine ⟨n+1,.exit j,al',H',env',h',φ',F',?_,q2,q⟩
    rw [run]
    simp only
    rw [if_neg (fun e=>by subst e; rw [Nat.beq_refl] at hb; cases hb)]
  all_goals exact ⟨n+1,_,al',H',env',h',φ',F',run,q2,q⟩
 | .loop c,a,env,k,φ,F,H,h,al,hv,ha,hnt,g,I,e,hk=>by
  simp only [okCodeV] at hv
  simp only [okAnn,Bool.and_eq_true] at ha
  simp only [den,keepK_eq,putK_eq] at hk
  have hinv:noneIn (asg c) (invOf a.i)=true:=by
   have:=ha.1
   unfold okI at this
   unfold invOf
   split at this
   ·rename_i hi; rw [hi]; rfl
   ·rename_i hi; rw [hi]; simp only [Bool.and_eq_true] at this; exact this.1
   ·rename_i hi1 hi2
    split
    ·rename_i hi; exact absurd hi (hi2 _ _ _ _)
    ·rfl
  have hexs:∀ x ∈ exsOf a.i,noneIn (asg c) x.2.2=true:=by
   have:=ha.1
   unfold okI at this
   unfold exsOf
   split at this
   ·rename_i hi; rw [hi]; intro x hx; cases hx
   ·rename_i hi; rw [hi]; simp only [Bool.and_eq_true,List.all_eq_true] at this; exact this.2
   ·rename_i hi1 hi2
    split
    ·rename_i hi; exact absurd hi (hi2 _ _ _ _)
    ·intro x hx; cases hx
  -- what holds at the head of each round
  let P:List V→Hp→Prop:=fun l hc=>∀ (φc:List Nat) (Fc:Nat→Prop) (Hc:AH) (alc:List Value),Inv φc Fc G Hc hc→Stp G φ F H h φc Fc Hc hc→alc.length=al.length→(∀ t,t ∉ asg c→getT alc t=getT al t) →
   (∀ j t,(insOf a.i)[j]? = some t→RV φc Fc Hc hc (ge l j) (getT alc t)) →
   ∃ n ex al' H' env' h' φ' F',exec Y.X (callN Y.X n) n (.loop c) alc Hc=some (ex,al',H')∧k ex env' h'∧Inv φ' F' G H' h'∧Stp G φ F H h φ' F' H' h'∧EnvR φ' F' H' h' env' al'∧al'.length=al.length∧∀ t,t ∉ asg c→getT al' t=getT al t
  have key:P ((insOf a.i).map (lk env)) h:=by
   refine hk P fun l hc ⟨q,hst,hq⟩=>?_
   intro φc Fc Hc alc Ic Sc hlen hsame hins
   have ec:EnvR φc Fc Hc hc (putE (keepE env (invOf a.i)) (insOf a.i) 0 l) alc:=by
    refine EnvR.join (env1:=env) (fun t ht=>?_) hins
    rw [hsame t (noneIn_not hinv ht)]
    exact RV.mono Sc.leF Sc.sl _ _ (e t)
   obtain ⟨n,ex,al1,H1,env1,h1,φ1,F1,q1,q2,q3,q4,q5,q6,q7⟩:=den_sim hY hC c a.a _ _ φc Fc Hc hc alc hv ha.2 (by omega) (g.mono Sc.leF) Ic ec hst
   have S1:=Sc.trans q4
   have same1:∀ t,t ∉ asg c→getT al1 t=getT al t:=fun t ht=>by rw [q7 t ht,hsame t ht]
   have out:∀ vs,ex≠.normal→vs=(outsOf (exsOf a.i) ex).map (lk env1)→exK ((exsOf a.i).map fun x=>(x.1,fun l h=>k x.1 (putE (keepE env x.2.2) x.2.1 0 l) h)) ex vs h1 →
     ∃ n ex al' H' env' h' φ' F',exec Y.X (callN Y.X n) n (.loop c) alc Hc=some (ex,al',H')∧k ex env' h'∧Inv φ' F' G H' h'∧Stp G φ F H h φ' F' H' h'∧EnvR φ' F' H' h' env' al'∧al'.length=al.length∧∀ t,t ∉ asg c→getT al' t=getT al t:=by
    intro vs hne hvs hx
    obtain ⟨x,hxm,hx1,hx2,hx3⟩:=exK_at (f:=fun x l h=>k x.1 (putE (keepE env x.2.2) x.2.1 0 l) h) hx
    refine ⟨n+1,ex,al1,H1,_,h1,φ1,F1,?_,by rw [← hx1]; exact hx3,q3,S1,EnvR.join (env1:=env1) (fun t ht=>?_) (fun j t hj=>?_),by omega,same1⟩
    ·simp only [exec]
     rw [exec_more (callN_succ Y.X n) (Nat.le_refl n) q1]
     cases ex <;> first | rfl | exact absurd rfl hne
    ·rw [same1 t (noneIn_not (hexs x hxm) ht)]
     exact RV.mono S1.leF S1.sl _ _ (e t)
    ·rw [hvs,hx2,ge_map x.2.1 env1 j t hj]; exact q5 t
   cases ex
   case normal =>
    obtain ⟨hcl,hP⟩:=hq .normal _ _ q2
    simp only [clean,Bool.and_eq_true] at hcl
    obtain ⟨m,ex,al',H',env',h',φ',F',r1,r⟩:=hP φ1 F1 H1 al1 (q3.reset S1.hl hcl.2) (S1.reset _) (by omega) same1 (fun j t hj=>by
     rw [ge_map (insOf a.i) env1 j t hj]
     refine RV.reset S1.hl _ _ ?_ (q5 t)
     have:∀ {l:List Nat} {j:Nat},offSs (clrOf a.i) (l.map (lk env1))=true→l[j]? = some t→offS (clrOf a.i) (lk env1 t)=true:=by
      intro l
      induction l with
      | nil=>intro j _ hj; simp at hj
      | cons s l ih =>
       intro j ho hj
       simp only [List.map_cons,offSs,Bool.and_eq_true] at ho
       cases j with
       | zero=>simp only [List.getElem?_cons_zero,Option.some.injEq] at hj; subst hj; exact ho.1
       | succ j=>exact ih ho.2 hj
     exact this hcl.1 hj)
    refine ⟨max n m+1,ex,al',H',env',h',φ',F',?_,r⟩
    simp only [exec]
    rw [exec_more (callN_le Y.X (by omega)) (by omega) q1]
    exact exec_more (callN_le Y.X (by omega)) (by omega) r1
   case exit j=>exact out _ (by simp) rfl (hq (.exit j) _ _ q2)
   case goto j=>exact out _ (by simp) rfl (hq (.goto j) _ _ q2)
   case ret=>exact out _ (by simp) rfl (hq .ret _ _ q2)
   case panic j=>exact out _ (by simp) rfl (hq (.panic j) _ _ q2)
   all_goals exact out _ (by simp) rfl (hq _ _ _ q2)
  obtain ⟨n,ex,al',H',env',h',φ',F',r⟩:=key φ F H al I (Stp.refl ..) rfl (fun _ _=>rfl) (fun j t hj=>by rw [ge_map (insOf a.i) env j t hj]; exact e t)
  exact ⟨n,ex,al',H',env',h',φ',F',r⟩
 | .rangeFunc ..,a,env,k,φ,F,H,h,al,_,_,_,_,_,_,hk=>by unfold den at hk; exact hk.elim
 | .goto _,a,env,k,φ,F,H,h,al,_,_,_,_,_,_,hk=>by unfold den at hk; exact hk.elim
 | .refuse _,a,env,k,φ,F,H,h,al,_,_,_,_,_,_,hk=>by unfold den at hk; exact hk.elim
end
end Go.Vm
namespace Go.Vm
open Go Go.Am
def Sub (C R:CC):Prop:=(∀ f ds v,C.p f ds v→R.p f ds v)∧∀ f args h v h',C.i f args h v h'→R.i f args h v h'
def Up1 (Y:VCfg) (R:CC) (f:FuncId) (ds:List V) (v:V) (q:V→Hp→Prop):Prop :=
 (∃ C:CC,Sub C R∧Y.X.allow f=true∧(∀ as,Y.X.orc f as=none)∧∃ fn m a,Y.X.P.funcs[f]? = some fn∧(∀ c,fn.body=some c→okAnn Y.X.P c a=true)∧fnD Y C fn m a ds q) ∨
 (∃ as w,Y.X.orc f as=some w∧ds=as.map lit∧v=lit w∧(∀ x ∈ as,litOk x=true)∧litOk w=true)
def Up2 (Y:VCfg) (R:CC) (f:FuncId) (args:List V) (h:Hp) (q:V→Hp→Prop):Prop :=
 ∃ C:CC,Sub C R∧Y.X.allow f=true∧(∀ as,Y.X.orc f as=none)∧∃ fn m,∃ a:Nat→Ann,Y.X.P.funcs[f]? = some fn∧(∀ c,fn.body=some c→okAnn Y.X.P c (a h.length)=true)∧fnI Y C fn m a args h q
def out (v:V):V→Hp→Prop:=fun r h=>∃ h',snap h r=some (v,h')
def Closed (Y:VCfg) (R:CC):Prop:=(∀ f ds v,Up1 Y R f ds v (out v)→R.p f ds v)∧∀ f args h v h',Up2 Y R f args h (outI h.length v h')→R.i f args h v h'
def CP (Y:VCfg):Calls1:=fun f ds v=>∀ R:CC,Closed Y R→R.p f ds v
def CI (Y:VCfg):Calls2:=fun f args h v h'=>∀ R:CC,Closed Y R→R.i f args h v h'
def CX (Y:VCfg):CC:=⟨CP Y,CI Y⟩
theorem CX.sub {Y:VCfg} {C R:CC} (h:Sub C (CX Y)) (hR:Closed Y R):Sub C R:=⟨fun f ds v hc=>h.1 f ds v hc R hR,fun f args h0 v h' hc=>h.2 f args h0 v h' hc R hR⟩
theorem CP.intro {Y:VCfg} {f:FuncId} {fn:Func} {m:Nat} {a:Ann} {ds:List V} {v:V} (h1:Y.X.allow f=true) (h2:∀ as,Y.X.orc f as=none) (h3:Y.X.P.funcs[f]? = some fn) (h4:∀ c,fn.body=some c→okAnn Y.X.P c a=true)
  (h5:fnD Y (CX Y) fn m a ds (out v)):CP Y f ds v:=fun R hR=>hR.1 f ds v (.inl ⟨CX Y,CX.sub ⟨fun _ _ _ h=>h,fun _ _ _ _ _ h=>h⟩ hR,h1,h2,fn,m,a,h3,h4,h5⟩)
theorem CP.orc {Y:VCfg} {f:FuncId} {as:List Value} {w:Value} (h1:Y.X.orc f as=some w) (h2:∀ x ∈ as,litOk x=true) (h3:litOk w=true):CP Y f (as.map lit) (lit w):=fun R hR=>hR.1 f _ _ (.inr ⟨as,w,h1,rfl,rfl,h2,h3⟩)
theorem CI.intro {Y:VCfg} {f:FuncId} {fn:Func} {m:Nat} {a:Nat→Ann} {args:List V} {h:Hp} {v:V} {h':Hp} (h1:Y.X.allow f=true) (h2:∀ as,Y.X.orc f as=none) (h3:Y.X.P.funcs[f]? = some fn) (h4:∀ c,fn.body=some c→okAnn Y.X.P c (a h.length)=true)
  (h5:fnI Y (CX Y) fn m a args h (outI h.length v h')):CI Y f args h v h':=fun R hR=>hR.2 f args h v h' ⟨CX Y,CX.sub ⟨fun _ _ _ h=>h,fun _ _ _ _ _ h=>h⟩ hR,h1,h2,fn,m,a,h3,h4,h5⟩
def okB (P:Program) (fn:Func) (a:Ann):Bool:=match fn.body with
 | some c=>okAnn P c a
 | none=>true
theorem CP.of {Y:VCfg} {f:FuncId} {fn:Func} {m:Nat} {a:Ann} {ds:List V} {v:V} (h1:Y.X.allow f=true) (h2:∀ as,Y.X.orc f as=none) (h3:Y.X.P.funcs[f]? = some fn) (h4:okB Y.X.P fn a=true)
  (h5:fnD Y (CX Y) fn m a ds (out v)):CP Y f ds v :=
 CP.intro h1 h2 h3 (fun c hc=>by unfold okB at h4; rw [hc] at h4; exact h4) h5
theorem CI.of {Y:VCfg} {f:FuncId} {fn:Func} {m:Nat} {a:Nat→Ann} {args:List V} {h:Hp} {v:V} {h':Hp} (h1:Y.X.allow f=true) (h2:∀ as,Y.X.orc f as=none) (h3:Y.X.P.funcs[f]? = some fn) (h4:okB Y.X.P fn (a h.length)=true)
  (h5:fnI Y (CX Y) fn m a args h (outI h.length v h')):CI Y f args h v h' :=
 CI.intro h1 h2 h3 (fun c hc=>by unfold okB at h4; rw [hc] at h4; exact h4) h5
structure VOk (Y:VCfg):Prop where
 y:YOk Y
 fns:∀ f fn c,Y.X.allow f=true→Y.X.P.funcs[f]? = some fn→fn.body=some c→okCodeV Y fn.ntmps c=true
section
variable {Y:VCfg} {φ:List Nat} {F G:Nat→Prop} {H:AH} {h:Hp}
theorem litD_inj {v w:Value} (hv:okZ v) (hr:RD F H (litD v) w):w=v:=by
 cases v <;> simp only [litD,RD] at hr
 case agg=>have:=hv.2; cases this
 case tuple=>have:=hv.2; cases this
 case string s=>obtain ⟨⟨l⟩⟩:=s; exact hr
 all_goals first | exact hr | exact hr.1
theorem litDs_inj:∀ {l ws:List Value},(∀ c ∈ l,okZ c)→RVs φ F H h (l.map fun c=>.d (litD c)) ws→ws=l
 | [],ws,_,hr=>by simpa only [List.map_nil,RVs] using hr
 | v :: l,ws,hl,hr=>by
  simp only [List.map_cons,RVs] at hr
  obtain ⟨w,us,rfl,r1,r2⟩:=hr
  simp only [RV] at r1
  rw [litD_inj (hl v (by simp)) r1,litDs_inj (fun c hc=>hl c (by simp [hc])) r2]
theorem lit_inj {v w:Value} (hv:litOk v=true) (hr:RV φ F H h (lit v) w):w=v:=by
 cases v <;> simp only [lit,litOk] at hv hr
 case agg cs =>
  obtain ⟨l⟩:=cs
  simp only [RV] at hr
  obtain ⟨ws,rfl,r⟩:=hr
  rw [litDs_inj (fun c hc=>by have:=List.all_eq_true.1 hv c hc; simpa [okZ] using this) r]
 case tuple cs =>
  obtain ⟨l⟩:=cs
  simp only [RV] at hr
  obtain ⟨ws,rfl,r⟩:=hr
  rw [litDs_inj (fun c hc=>by have:=List.all_eq_true.1 hv c hc; simpa [okZ] using this) r]
 all_goals (simp only [RV] at hr; exact litD_inj ⟨hv,rfl⟩ hr)
theorem lits_inj:∀ {l ws:List Value},(∀ c ∈ l,litOk c=true)→RVs φ F H h (l.map lit) ws→ws=l
 | [],ws,_,hr=>by simpa only [List.map_nil,RVs] using hr
 | v :: l,ws,hl,hr=>by
  simp only [List.map_cons,RVs] at hr
  obtain ⟨w,us,rfl,r1,r2⟩:=hr
  rw [lit_inj (hl v (by simp)) r1,lits_inj (fun c hc=>hl c (by simp [hc])) r2]
theorem lk_argE:∀ (l:List V) (i t:Nat),lk (argE i l) t=if i≤t then ge l (t - i) else .junk
 | [],i,t=>by simp only [argE,lk]; split <;> first | rfl | (cases t - i <;> rfl)
 | x :: l,i,t=>by
  show lk ((i,x) :: argE (i+1) l) t=_
  rw [lk_cons,lk_argE l (i+1) t]
  by_cases hi:t=i
  ·subst hi; simp [ge]
  ·rw [if_neg hi]
   by_cases hl:i≤t
   ·rw [if_pos hl,if_pos (by omega)]
    obtain ⟨d,hd⟩:∃ d,t - i=d+1:=⟨t - i - 1,by omega⟩
    rw [hd,show t - (i+1)=d by omega]; rfl
   ·rw [if_neg hl,if_neg (by omega)]
theorem ge_rel {l:List V} {ws:List Value} (hr:RVs φ F H h l ws) (t:Nat):ge l t=.junk∨∃ w,ws[t]? = some w∧RV φ F H h (ge l t) w:=by
 induction l generalizing ws t with
 | nil=>exact .inl rfl
 | cons x l ih =>
  simp only [RVs] at hr
  obtain ⟨w,us,rfl,r1,r2⟩:=hr
  cases t with
  | zero=>exact .inr ⟨w,rfl,r1⟩
  | succ t=>exact ih r2 t
theorem resD_sim (hY:YOk Y) (I:Inv φ F G H h) {env:Env} {a:List Value} (e:EnvR φ F H h env a) {r:ResultVar} {v:V} (hv:resD Y env h r=some v):∃ w,resV Y.X.P H a r=some w∧RV φ F H h v w:=by
 have hg:∀ t,a.getD t undef=getT a t:=fun t=>(getT_eq a t).symm
 cases r with
 | tmp t=>simp only [resD,Option.some.injEq] at hv; subst hv; exact ⟨_,rfl,by rw [hg]; exact e t⟩
 | cell x t =>
  simp only [resD] at hv
  simp only [resV,hg]
  have T:=hY.ty t
  split at hv
  ·rename_i hag
   have hu:(∃ gs,Y.X.P.underlying t=some (.struct gs))∨∃ k e,Y.X.P.underlying t=some (.array k e):=by
    have hkd:=T.kind
    revert hkd hag
    cases (Y.ty t).k <;> simp only [isAg] <;> intro hag hkd <;> try cases hag
    ·exact .inr ⟨_,_,hkd⟩
    ·obtain ⟨gs,hu,_⟩:=hkd; exact .inl ⟨gs,hu⟩
   exact loadA_sim I hu (T.sz (by intro e; rw [e] at hag; cases hag)) hv (e x)
  ·rename_i hag
   have hu:∃ d,Y.X.P.underlying t=some d∧(∀ gs,d≠.struct gs)∧∀ n e,d≠.array n e:=by
    have hkd:=T.kind
    revert hkd hag
    cases (Y.ty t).k <;> simp only [isAg] <;> intro hag hkd <;> (try cases hag)
    all_goals first
     | exact ⟨_,hkd,fun _=>by simp,fun _ _=>by simp⟩
     | (obtain ⟨_,hkd⟩:=hkd; exact ⟨_,hkd,fun _=>by simp,fun _ _=>by simp⟩)
     | (obtain ⟨_,_,_,hkd⟩:=hkd; exact ⟨_,hkd,fun _=>by simp,fun _ _=>by simp⟩)
   obtain ⟨d,hd,h1,h2⟩:=hu
   exact load1_sim I hd h1 h2 hv (e x)
  ·cases hv
theorem ress_sim (hY:YOk Y) (I:Inv φ F G H h) {env:Env} {a:List Value} (e:EnvR φ F H h env a):∀ {rs:List ResultVar} {q:List V→Prop},ress (rs.map (resD Y env h)) q→∃ l ws,q l∧rs.mapM (resV Y.X.P H a)=some ws∧RVs φ F H h l ws
 | [],q,hq=>⟨[],[],hq,rfl,by simp [RVs]⟩
 | r :: rs,q,hq=>by
  simp only [List.map_cons,ress] at hq
  unfold bnd at hq
  split at hq
  ·rename_i v hv
   obtain ⟨w,hw,hr⟩:=resD_sim hY I e hv
   obtain ⟨l,ws,h1,h2,h3⟩:=ress_sim hY I e hq
   refine ⟨v :: l,w :: ws,h1,?_,?_⟩
   ·rw [List.mapM_cons,hw,h2]; rfl
   ·simp only [RVs]; exact ⟨w,ws,rfl,hr,h3⟩
  ·exact hq.elim
theorem fn_sim (hV:VOk Y) {C:CC} (hC:COk Y C) {f:FuncId} {fn:Func} {m:Nat} {a:Ann} {ds:List V} {v:V} (ha:Y.X.allow f=true) (ho:∀ as,Y.X.orc f as=none) (hf:Y.X.P.funcs[f]? = some fn)
  (hok:∀ c,fn.body=some c→okAnn Y.X.P c a=true) (hd:fnD Y C fn m a ds (out v)):CallOK Y f ds v:=by
 intro F H args wf hF g hargs
 unfold fnD at hd
 split at hd
 ·rename_i c hc
  let h0:Hp:=List.replicate m (0,.none)
  have hnone:∀ (i e:Nat) (b:Bk),h0[i]? = some (e,b)→b=Bk.none:=fun i e b hi=>by
   have hm:=List.eq_of_mem_replicate (List.mem_of_getElem? hi)
   cases hm; rfl
  have I0:Inv (List.replicate m 0) F (fun c=>c < H.n) H h0:=by
   refine ⟨by simp [h0],?_,?_,fun c hc=>(hF c hc).2,?_,?_,?_,wf⟩
   ·intro i e b hi; rw [hnone i e b hi]; trivial
   ·rintro c (hc | hc)
    ·exact (hF c hc).1
    ·exact hc
   ·intro i e b hi hob; rw [hnone i e b hi] at hob; exact hob.elim
   ·intro i e b j e' b' hi hob; rw [hnone i e b hi] at hob; exact hob.elim
   ·intro c x g y hx _ hc; exact absurd (AH.get_lt hx) hc
  let al:=args++List.replicate (fn.ntmps - args.length) undef
  have hlen:fn.ntmps≤al.length:=by simp [al]; omega
  have e0:EnvR (List.replicate m 0) F H h0 (argE 0 ds) al:=by
   intro t
   rw [lk_argE,if_pos (Nat.zero_le _),Nat.sub_zero]
   rcases ge_rel (hargs (List.replicate m 0) h0) t with hj | ⟨w,hw,hr⟩
   ·rw [hj]; simp only [RV]
   ·have:getT al t=w:=by
     rw [getT_eq,List.getD_eq_getElem?_getD,List.getElem?_append_left (lt_of_get hw),hw]; rfl
    rw [this]; exact hr
  obtain ⟨n,ex,al',H',env',h',φ',F',q1,q2,q3,q4,q5,_,_⟩:=den_sim hV.y hC (nt:=fn.ntmps) c a (argE 0 ds) _ _ F H h0 al (hV.fns f fn c ha hf hc) (hok c hc) hlen g I0 e0 hd
  have fin:(ex=.normal∨ex=.ret)→ress (fn.results.toList.map (resD Y env' h')) (fun l=>out v (tupV l) h') →
    ∃ n w H2 F2,callN Y.X n f args H=some (w,H2)∧H.n≤H2.n∧WF H2∧(∀ c,c < H.n→H2.get c=H.get c)∧(∀ c,F c→F2 c)∧(∀ c,F2 c→F c∨H.n≤c) ∧
    (∀ c,F2 c→c < H2.n∧∃ x,H2.get c=some x∧x.st=1) ∧
    (∀ c x,H.n≤c→H2.get c=some x→x.st≠0→∀ g y,g < H.n→H.get g=some y→y.st≠0→x.fam≠y.fam)∧(∀ r,r < H.n→NoKin H r→NoKin H2 r) ∧
    ∀ φ0 h0,RV φ0 F2 H2 h0 v w:=by
   intro hex hr
   obtain ⟨l,ws,⟨h2,hsn⟩,hm,hrs⟩:=ress_sim hV.y q3 q5 hr
   obtain ⟨w,hw,hrw⟩:∃ w,resultsV Y.X.P fn al' H'=some w∧RV φ' F' H' h' (tupV l) w:=by
    unfold resultsV
    rw [hm]
    match l,ws,hrs with
    | [],_,hrs =>
     simp only [RVs] at hrs
     subst hrs
     exact ⟨_,rfl,by simp only [tupV,RV]; exact ⟨[],rfl,by simp only [RVs]⟩⟩
    | [x],_,hrs =>
     simp only [RVs] at hrs
     obtain ⟨y,us,rfl,r1,rfl⟩:=hrs
     exact ⟨y,rfl,r1⟩
    | x :: y :: l,_,hrs =>
     have hrs2:=hrs
     simp only [RVs] at hrs
     obtain ⟨u,us,rfl,_,u2,us2,rfl,_⟩:=hrs
     exact ⟨_,rfl,by simp only [tupV,RV]; exact ⟨_,rfl,hrs2⟩⟩
   obtain ⟨F2,S2,r2⟩:=snap_sim q3 hsn hrw
   have St:=q4.trans S2.2
   refine ⟨n+1,w,H',F2,?_,St.n,S2.1.wf,fun c hc=>St.keep c (.inr hc),St.fm,fun c hc=>?_,fun c hc=>⟨S2.1.lt c (.inl hc),S2.1.fb c hc⟩,?_,fun r hr=>St.nokin r hr,r2⟩
   ·unfold callN
    rw [ho args]
    simp only [ha,if_true,hf,hc]
    rw [show exec Y.X (callN Y.X n) n c (args++List.replicate (fn.ntmps - args.length) undef) H=_ from q1]
    rcases hex with rfl | rfl <;> simp only [hw,Option.map_some]
   ·rcases St.fn c hc with hc | hc
    ·exact .inl hc
    ·exact .inr (by omega)
   ·intro c x hc hx h0 g y hg hy hy0
    exact S2.1.sep c x g y hx h0 (by omega) hg (by rw [St.keep g (.inr hg)]; exact hy) hy0
  cases ex
  case normal=>exact fin (.inl rfl) q2
  case ret=>exact fin (.inr rfl) q2
  all_goals exact q2.elim
 ·exact hd.elim
mutual
theorem RV.take {b:Nat}:∀ (x:V) (v:Value),under b x=true→RV φ F H h x v→RV (φ.take b) F H (h.take b) x v
 | .junk,_,_,_=>by simp only [RV]
 | .d x,v,_,hv=>by simpa only [RV] using hv
 | .ref s e off len cap tot,v,ho,hv=>by
  have hs:s < b:=by simp only [under] at ho; rw [Nat.blt_eq] at ho; exact ho
  have h1:(h.take b)[s]? = h[s]?:=List.getElem?_take_of_lt hs
  have h2:(φ.take b).getD s 0=φ.getD s 0:=by rw [List.getD_eq_getElem?_getD,List.getD_eq_getElem?_getD,List.getElem?_take_of_lt hs]
  simp only [RV,ep,hget,h1,h2] at hv ⊢
  exact hv
 | .ptr s e off tot,v,ho,hv=>by
  have hs:s < b:=by simp only [under] at ho; rw [Nat.blt_eq] at ho; exact ho
  have h1:(h.take b)[s]? = h[s]?:=List.getElem?_take_of_lt hs
  have h2:(φ.take b).getD s 0=φ.getD s 0:=by rw [List.getD_eq_getElem?_getD,List.getD_eq_getElem?_getD,List.getElem?_take_of_lt hs]
  simp only [RV,ep,hget,h1,h2] at hv ⊢
  exact hv
 | .dptr cs pos,v,_,hv=>by simpa only [RV] using hv
 | .cut n,v,_,hv=>by simpa only [RV] using hv
 | .agg l,v,ho,hv=>by
  simp only [under] at ho
  simp only [RV] at hv ⊢
  obtain ⟨ws,e,r⟩:=hv
  exact ⟨ws,e,RVs.takeH l ws ho r⟩
 | .tup l,v,ho,hv=>by
  simp only [under] at ho
  simp only [RV] at hv ⊢
  obtain ⟨ws,e,r⟩:=hv
  exact ⟨ws,e,RVs.takeH l ws ho r⟩
 | .fn g fs cs,v,ho,hv=>by
  simp only [under,Bool.and_eq_true] at ho
  simp only [RV] at hv ⊢
  obtain ⟨a,b,e,r,q⟩:=hv
  exact ⟨a,b,e,RVs.takeH fs a ho.1 r,RVs.takeH cs b ho.2 q⟩
 | .ifc t x,v,ho,hv=>by
  simp only [under] at ho
  simp only [RV] at hv ⊢
  obtain ⟨w,e,r⟩:=hv
  exact ⟨w,e,RV.take x w ho r⟩
 | .new ..,v,_,hv=>by simp only [RV] at hv
theorem RVs.takeH {b:Nat}:∀ (xs:List V) (vs:List Value),unders b xs=true→RVs φ F H h xs vs→RVs (φ.take b) F H (h.take b) xs vs
 | [],vs,_,hv=>by simpa only [RVs] using hv
 | x :: xs,vs,ho,hv=>by
  simp only [unders,Bool.and_eq_true] at ho
  simp only [RVs] at hv ⊢
  obtain ⟨v,us,e,h1,h2⟩:=hv
  exact ⟨v,us,e,RV.take x v ho.1 h1,RVs.takeH xs us ho.2 h2⟩
end
theorem Inv.takeH (I:Inv φ F G H h) {b:Nat} (hu:((h.take b).all fun x=>underB b x.2)=true):Inv (φ.take b) F G H (h.take b):=by
 have hg:∀ {i e k},(h.take b)[i]? = some (e,k)→i < b∧h[i]? = some (e,k):=fun {i e k} hi=>by
  have hlt:i < b:=by
   have:=lt_of_get hi
   rw [List.length_take] at this
   omega
  exact ⟨hlt,by rw [← List.getElem?_take_of_lt hlt]; exact hi⟩
 have hf:∀ {i},i < b→(φ.take b).getD i 0=φ.getD i 0:=fun {i} hi=>by rw [List.getD_eq_getElem?_getD,List.getD_eq_getElem?_getD,List.getElem?_take_of_lt hi]
 refine ⟨by rw [List.length_take,List.length_take,I.len],?_,I.lt,I.fb,?_,?_,I.sep,I.wf⟩
 ·intro i e k hi
  obtain ⟨hlt,hi2⟩:=hg hi
  rw [hf hlt]
  have:=I.blk i e k hi2
  cases k with
  | none=>trivial
  | vars cs =>
   obtain ⟨x,hx,h1,h2,h3⟩:=this
   have hub:=List.all_eq_true.1 hu (e,.vars cs) (List.mem_of_getElem? hi)
   exact ⟨x,hx,h1,h2,RVs.takeH _ _ hub h3⟩
  | data n cs ex fr=>exact this
 ·intro i e k hi ho
  obtain ⟨hlt,hi2⟩:=hg hi
  rw [hf hlt]
  exact I.priv i e k hi2 ho
 ·intro i e k j e' k' hi ho hj ho' hij
  obtain ⟨hlt,hi2⟩:=hg hi
  obtain ⟨hlt',hj2⟩:=hg hj
  rw [hf hlt,hf hlt']
  exact I.inj i e k j e' k' hi2 ho hj2 ho' hij
theorem fnI_sim (hV:VOk Y) {C:CC} (hC:COk Y C) {f:FuncId} {fn:Func} {m:Nat} {a:Nat→Ann} {args:List V} {h h2:Hp} {v:V} (ha:Y.X.allow f=true) (ho:∀ as,Y.X.orc f as=none) (hf:Y.X.P.funcs[f]? = some fn)
  (hok:∀ c,fn.body=some c→okAnn Y.X.P c (a h.length)=true) (hd:fnI Y C fn m a args h (outI h.length v h2)):CallOI Y f args h v h2:=by
 intro φ F G H ws I g hargs
 unfold fnI at hd
 split at hd
 ·rename_i c hc
  let h0:Hp:=h++List.replicate m (0,.none)
  let φ0:List Nat:=φ++List.replicate m 0
  have hnew:∀ {i e k},h0[i]? = some (e,k)→(i < h.length∧h[i]? = some (e,k))∨(h.length≤i∧e=0∧k=Bk.none):=fun {i e k} hi=>by
   rcases Nat.lt_or_ge i h.length with hlt | hge
   ·exact .inl ⟨hlt,by rw [← List.getElem?_append_left hlt]; exact hi⟩
   ·rw [show h0=h++List.replicate m (0,.none) from rfl,List.getElem?_append_right hge] at hi
    have hm:=List.eq_of_mem_replicate (List.mem_of_getElem? hi)
    cases hm; exact .inr ⟨hge,rfl,rfl⟩
  have hφ:∀ {i},i < h.length→φ0.getD i 0=φ.getD i 0:=fun {i} hi=>by
   rw [List.getD_eq_getElem?_getD,List.getD_eq_getElem?_getD,List.getElem?_append_left (by rw [I.len]; exact hi)]
  have hsl:SlLe φ h φ0 h0:=by
   intro s
   rcases Nat.lt_or_ge s h.length with hlt | hge
   ·have e1:h0[s]? = h[s]?:=List.getElem?_append_left hlt
    simp only [ep,hget,e1]
    exact ⟨Nat.le_refl _,fun _ q hq=>⟨q,hq,Nat.le_refl _,fun _=>hφ hlt⟩⟩
   ·have e1:h[s]? = none:=List.getElem?_eq_none hge
    cases h2:h0[s]? with
    | none=>simp only [ep,hget,e1,h2]; exact ⟨Nat.le_refl _,fun _ q hq=>by cases hq⟩
    | some p =>
     obtain ⟨e,k⟩:=p
     rcases hnew h2 with ⟨hlt,_⟩ | ⟨_,rfl,rfl⟩
     ·omega
     ·simp only [ep,hget,e1,h2]
      exact ⟨Nat.le_refl _,fun _ q hq=>by simp [blen] at hq⟩
  have hle:LeF F F H H:=⟨fun _ hc=>hc,fun _ _=>rfl,fun c x hx h0=>⟨x,hx,h0⟩⟩
  have I0:Inv φ0 F G H h0:=by
   refine ⟨by simp [φ0,h0,I.len],?_,I.lt,I.fb,?_,?_,I.sep,I.wf⟩
   ·intro i e k hi
    rcases hnew hi with ⟨hlt,hi2⟩ | ⟨_,_,rfl⟩
    ·rw [hφ hlt]; exact (I.blk i e k hi2).mono hle hsl rfl
    ·trivial
   ·intro i e k hi hob
    rcases hnew hi with ⟨hlt,hi2⟩ | ⟨_,_,rfl⟩
    ·rw [hφ hlt]; exact I.priv i e k hi2 hob
    ·exact hob.elim
   ·intro i e k j e' k' hi hob hj hob' hij
    rcases hnew hi with ⟨hlt,hi2⟩ | ⟨_,_,rfl⟩
    ·rcases hnew hj with ⟨hlt',hj2⟩ | ⟨_,_,rfl⟩
     ·rw [hφ hlt,hφ hlt']; exact I.inj i e k j e' k' hi2 hob hj2 hob' hij
     ·exact hob'.elim
    ·exact hob.elim
  have S0:Stp G φ F H h φ F H h:=Stp.refl ..
  let al:=ws++List.replicate (fn.ntmps - ws.length) undef
  have hlen:fn.ntmps≤al.length:=by simp [al]; omega
  have e0:EnvR φ0 F H h0 (argE 0 args) al:=by
   intro t
   rw [lk_argE,if_pos (Nat.zero_le _),Nat.sub_zero]
   rcases ge_rel (RVs.mono hle hsl _ _ hargs) t with hj | ⟨w,hw,hr⟩
   ·rw [hj]; simp only [RV]
   ·have:getT al t=w:=by
     rw [getT_eq,List.getD_eq_getElem?_getD,List.getElem?_append_left (lt_of_get hw),hw]; rfl
    rw [this]; exact hr
  obtain ⟨n,ex,al',H',env',h',φ',F',q1,q2,q3,q4,q5,_,_⟩:=den_sim hV.y hC (nt:=fn.ntmps) c (a h.length) (argE 0 args) _ φ0 F H h0 al (hV.fns f fn c ha hf hc) (hok c hc) hlen g I0 e0 hd
  have hb:h.length≤h'.length:=by rw [q4.hl]; simp [h0]
  have fin:(ex=.normal∨ex=.ret)→ress (fn.results.toList.map (resD Y env' h')) (fun l=>outI h.length v h2 (tupV l) h') →
    ∃ n w H2 φ2 F2,callN Y.X n f ws H=some (w,H2)∧Inv φ2 F2 G H2 h2∧Stp G φ F H h φ2 F2 H2 h2∧ResI φ2 F2 G H2 h2 v w:=by
   intro hex hr
   obtain ⟨l,us,⟨rfl,hu,hres⟩,hm,hrs⟩:=ress_sim hV.y q3 q5 hr
   obtain ⟨w,hw,hrw⟩:∃ w,resultsV Y.X.P fn al' H'=some w∧RV φ' F' H' h' (tupV l) w:=by
    unfold resultsV
    rw [hm]
    match l,us,hrs with
    | [],_,hrs =>
     simp only [RVs] at hrs
     subst hrs
     exact ⟨_,rfl,by simp only [tupV,RV]; exact ⟨[],rfl,by simp only [RVs]⟩⟩
    | [x],_,hrs =>
     simp only [RVs] at hrs
     obtain ⟨y,us,rfl,r1,rfl⟩:=hrs
     exact ⟨y,rfl,r1⟩
    | x :: y :: l,_,hrs =>
     have hrs2:=hrs
     simp only [RVs] at hrs
     obtain ⟨u,us,rfl,_,u2,us2,rfl,_⟩:=hrs
     exact ⟨_,rfl,by simp only [tupV,RV]; exact ⟨_,rfl,hrs2⟩⟩
   have It:=q3.takeH hu
   have St:Stp G φ F H h (φ'.take h.length) F' H' (h'.take h.length):=by
    refine ⟨q4.n,q4.keep,q4.fm,q4.fn,q4.born,q4.nokin,by rw [List.length_take]; omega,fun s=>?_⟩
    rcases Nat.lt_or_ge s h.length with hlt | hge
    ·obtain ⟨a1,a2⟩:=(hsl.trans q4.sl) s
     have e1:(h'.take h.length)[s]? = h'[s]?:=List.getElem?_take_of_lt hlt
     have e2:(φ'.take h.length).getD s 0=φ'.getD s 0:=by rw [List.getD_eq_getElem?_getD,List.getD_eq_getElem?_getD,List.getElem?_take_of_lt hlt]
     simp only [ep,hget,e1,e2] at a1 a2 ⊢
     exact ⟨a1,a2⟩
    ·have e1:(h'.take h.length)[s]? = none:=List.getElem?_eq_none (by rw [List.length_take]; omega)
     have e2:h[s]? = none:=List.getElem?_eq_none hge
     simp only [ep,hget,e1,e2]
     exact ⟨Nat.le_refl _,fun _ q hq=>by cases hq⟩
   refine ⟨n+1,w,H',_,F',?_,It,St,?_⟩
   ·unfold callN
    rw [ho ws]
    simp only [ha,if_true,hf,hc]
    rw [show exec Y.X (callN Y.X n) n c (ws++List.replicate (fn.ntmps - ws.length) undef) H=_ from q1]
    rcases hex with rfl | rfl <;> simp only [hw,Option.map_some]
   ·have newI:∀ s e len cap k cs ex2,tupV l=.ref s e 0 len cap cs.length→h.length≤s→hget h' s e=.data k cs ex2 false→NewI (φ'.take h.length) F' G H' (h'.take h.length) k cs ex2 len cap w:=by
     intro s e len cap k cs ex2 hr2 hs hg
     rw [hr2] at hrw
     have hsg:=hget_some (by simp) hg
     obtain ⟨rfl,x,hx,h1,hd,hex,hez,hk,_,hwr⟩:=ref_at q3 hrw hg rfl
     refine ⟨_,x,rfl,hx,h1,hwr rfl,hd,hex,hez,hk,fun g hg=>?_,fun i e' b hi hob=>?_⟩
     ·obtain ⟨p1,p2⟩:=q3.priv s e _ hsg rfl g hg
      exact ⟨p1,fun y hy hy1=>p2 y x hy hx hy1⟩
     ·have hlt:i < h.length:=by
       have:=lt_of_get hi
       rw [List.length_take] at this
       omega
      have hi2:h'[i]? = some (e',b):=by rw [← List.getElem?_take_of_lt hlt]; exact hi
      have e2:(φ'.take h.length).getD i 0=φ'.getD i 0:=by rw [List.getD_eq_getElem?_getD,List.getD_eq_getElem?_getD,List.getElem?_take_of_lt hlt]
      rw [e2]
      obtain ⟨p1,p2⟩:=q3.inj i e' b s e _ hi2 hob hsg rfl (by omega)
      exact ⟨p1,fun y hy=>p2 y x hy hx⟩
    rcases hres with ⟨rfl,hun⟩ | ⟨rfl,x,h3,ht⟩ | ⟨s,e,len,cap,k,cs,ex2,hr2,hs,hg,rfl⟩ | ⟨k,rfl,hr2 | ⟨s,e,hr2,hs,hg⟩⟩
    ·have:=RV.take _ _ hun hrw
     unfold ResI
     split
     ·rename_i heq; rw [heq] at hun; cases hun
     ·rename_i heq; rw [heq] at hun; cases hun
     ·exact this
    ·obtain ⟨_,_,hrd⟩:=toD_sim q3 ht hrw
     simp only [ResI,RV,RD]
     simp only [RD] at hrd
     rcases hrd with ⟨_,_,e⟩ | ⟨_,_,_,_,_,_,hp,_⟩
     ·exact .inl ⟨trivial,trivial,e⟩
     ·exact absurd hp (Nat.lt_irrefl 0)
    ·exact newI _ _ _ _ _ _ _ hr2 hs hg
    ·rw [hr2] at hrw
     simp only [RV,RD] at hrw
     exact .inl hrw.1
    ·exact .inr (newI s e 0 0 k [] true hr2 hs hg)
  cases ex
  case normal=>exact fin (.inl rfl) q2
  case ret=>exact fin (.inr rfl) q2
  all_goals exact q2.elim
 ·exact hd.elim
theorem closed_ok (hV:VOk Y):Closed Y ⟨CallOK Y,CallOI Y⟩:=by
 constructor
 ·intro f ds v hu
  rcases hu with ⟨C,hC,ha,ho,fn,m,a,hf,hok,hd⟩ | ⟨as,w,ho,rfl,rfl,has,hw⟩
  ·exact fn_sim hV ⟨hC.1,hC.2⟩ ha ho hf hok hd
  ·intro F H args wf hF g hargs
   have:args=as:=lits_inj has (hargs [] [])
   subst this
   refine ⟨1,w,H,F,?_,Nat.le_refl _,wf,fun _ _=>rfl,fun _ h=>h,fun _ h=>.inl h,hF,?_,fun _ _ h=>h,fun φ0 h0=>lit_rel hw⟩
   ·unfold callN; rw [ho]
   ·intro c x hc hx; have:=AH.get_lt hx; omega
 ·intro f args h v h' ⟨C,hC,ha,ho,fn,m,a,hf,hok,hd⟩
  exact fnI_sim hV ⟨hC.1,hC.2⟩ ha ho hf hok hd
theorem CP_ok (hV:VOk Y) {f:FuncId} {ds:List V} {v:V} (hc:CP Y f ds v):CallOK Y f ds v:=hc _ (closed_ok hV)
end
end Go.Vm
