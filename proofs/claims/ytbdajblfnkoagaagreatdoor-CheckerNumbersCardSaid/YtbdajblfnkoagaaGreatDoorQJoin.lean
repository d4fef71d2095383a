/- From contracts to the model's calls: what comes in is read alone. -/
import Derived.Test.YtbdajblfnkoagaaGreatDoorQLibSl
import Derived.Test.YtbdajblfnkoagaaGreatDoorQVmOk
import Derived.WalkKit
import Derived.ProofKit
import Derived.OpenShut
import Derived.Deep.DeepHandedRow
import Derived.Deep.Matrix
import Derived.Lib.LaidTab
import Derived.Test.YtbdajblfnkoagaaGreatDoorTie
import Derived.Test.YtbdajblfnkoagaaGreatDoorCards
set_option linter.unusedVariables false
set_option linter.unusedSimpArgs false
namespace Go.Vm
open Go Go.Am
mutual
def WD (w:World):D→Value→Prop
 | .int k n,v=>v=.int k n
 | .bool b,v=>v=.bool b
 | .str s,v=>v=.string ⟨⟨s⟩⟩
 | .pl u,v=>v=u∧plain u=true∧okCell u=true
 | .sl len cells,v=>(len=0∧cells=[]∧(v=.slice none 0 0∨∃ a,v=.slice (some a) 0 0)) ∨
   ∃ c o cap n cs e fz,v=.slice (some ⟨c,o,none⟩) len cap∧len≤cap∧0 < n∧cells.length=len * n ∧
    w.heap[c]? = some (.cells cs e fz)∧o+cells.length≤cs.size∧WDs w cells ((cs.toList.drop o).take cells.length)
def WDs (w:World):List D→List Value→Prop
 | [],l=>l=[]
 | x :: xs,l=>∃ v vs,l=v :: vs∧WD w x v∧WDs w xs vs
end
structure Ly (w:World) (φ:Pmap) (F:Nat→Prop) (H:AH):Prop where
 rel:HRel X φ H w
 wf:WF H
 fr:∀ c,F c→c < H.n∧∃ x,H.get c=some x∧x.st=1
 ro:∀ c x,H.get c=some x→x.wr=false
 top:∀ b p,φ b=some p→b < H.n
 pg:∃ p,φ powG=some p
structure LyLe (φ:Pmap) (F:Nat→Prop) (H:AH) (φ':Pmap) (F':Nat→Prop) (H':AH):Prop where
 n:H.n≤H'.n
 le:PLe φ φ'
 fm:∀ c,F c→F' c
 keep:∀ c,c < H.n→H'.get c=H.get c
theorem LyLe.refl (φ:Pmap) (F:Nat→Prop) (H:AH):LyLe φ F H φ F H:=⟨Nat.le_refl _,PLe.refl _,fun _ h=>h,fun _ _=>rfl⟩
theorem LyLe.trans {φ φ1 φ2:Pmap} {F F1 F2:Nat→Prop} {H H1 H2:AH} (a:LyLe φ F H φ1 F1 H1) (b:LyLe φ1 F1 H1 φ2 F2 H2):LyLe φ F H φ2 F2 H2 :=
 ⟨Nat.le_trans a.n b.n,a.le.trans b.le,fun c h=>b.fm c (a.fm c h),fun c h=>by rw [b.keep c (Nat.lt_of_lt_of_le h a.n),a.keep c h]⟩
theorem LyLe.leF {φ φ':Pmap} {F F':Nat→Prop} {H H':AH} {w:World} (L:Ly w φ F H) (a:LyLe φ F H φ' F' H'):LeF F F' H H' :=
 ⟨a.fm,fun c hc=>a.keep c (L.fr c hc).1,fun c x hx h0=>⟨x,by rw [a.keep c (AH.get_lt hx)]; exact hx,h0⟩⟩
def roB (b n:Nat) (cells:List Value):Blk:={ cells,st:=1,wr:=false,fam:=b,start:=0,shared:=false,exact:=true,esz:=n,ver:=1 }
theorem Ly.push {w:World} {φ:Pmap} {F:Nat→Prop} {H:AH} (L:Ly w φ F H) {c o n:Nat} {us vs:List Value} {cs:Array Value} {e:TypeId} {fz:Nat × Nat} (hh:w.heap[c]? = some (.cells cs e fz))
  (hlen:us.length=vs.length) (ho:o+us.length≤cs.size) (hvs:vs=(cs.toList.drop o).take us.length) (hr:LRel φ us vs) :
  Ly w (addP φ H.n ⟨c,o,us.length,n,cs.size,true⟩) (fun x=>F x∨x=H.n) (H.push (roB H.n n us)) ∧
  LyLe φ F H (addP φ H.n ⟨c,o,us.length,n,cs.size,true⟩) (fun x=>F x∨x=H.n) (H.push (roB H.n n us)):=by
 have hnone:φ H.n=none:=by
  cases hq:φ H.n with
  | none=>rfl
  | some p=>have:=L.top _ p hq; omega
 have hle:PLe φ (addP φ H.n ⟨c,o,us.length,n,cs.size,true⟩):=PLe.add hnone
 have hn:(H.push (roB H.n n us)).n=H.n+1:=rfl
 have old:∀ b,b < H.n→(H.push (roB H.n n us)).get b=H.get b:=fun b hb=>AH.get_push (by omega)
 have new:(H.push (roB H.n n us)).get H.n=some (roB H.n n us):=AH.get_push_new H _
 have ro:∀ b x,(H.push (roB H.n n us)).get b=some x→x.wr=false:=fun b x hx=>by
  rcases Nat.lt_or_ge b H.n with h | h
  ·rw [old b h] at hx; exact L.ro b x hx
  ·have hb:b=H.n:=by have:=AH.get_lt hx; omega
   subst hb
   rw [new] at hx; cases hx; rfl
 refine ⟨⟨⟨fun g hg=>?_,fun b p hp=>?_,fun b p x i v hp hx h1 hv=>?_,fun b p x i hp hx h1 hi=>?_,fun b b' p p' x x' _ _ hx hx' _ _ _ _=>.inl ⟨ro b x hx,ro b' x' hx'⟩⟩,?_,fun b hb=>?_,ro,fun b p hp=>?_,L.pg.imp fun p hp=>hle _ p hp⟩,
  ⟨by omega,hle,fun x h=>.inl h,old⟩⟩
 ·obtain ⟨p,hp,h1⟩:=L.rel.glob g hg
  exact ⟨p,hle g p hp,h1⟩
 ·by_cases hb:b=H.n
  ·subst hb
   rw [addP_same] at hp; cases hp
   exact ⟨_,cs,e,fz,new,by simp [roB],rfl,rfl,rfl,hh,rfl,ho⟩
  ·rw [addP_ne hb] at hp
   obtain ⟨x,r⟩:=L.rel.dom b p hp
   exact ⟨x,by rw [old b (L.top b p hp)]; exact r⟩
 ·by_cases hb:b=H.n
  ·subst hb
   rw [addP_same] at hp; cases hp
   rw [new] at hx; cases hx
   obtain ⟨v',h1,h2⟩:=hr.at (i:=i) hv
   refine ⟨v',?_,VRel.mono hle v v' h2⟩
   rw [cell_of_heap hh]
   rw [hvs] at h1
   have hi:i < us.length:=(List.getElem?_eq_some_iff.1 hv).1
   rw [List.getElem?_take_of_lt hi,List.getElem?_drop] at h1
   simpa using h1
  ·rw [addP_ne hb] at hp
   rw [old b (L.top b p hp)] at hx
   obtain ⟨v',h2,h3⟩:=L.rel.cell b p x i v hp hx h1 hv
   exact ⟨v',h2,VRel.mono hle v v' h3⟩
 ·rw [ro b x hx] at h1; cases h1
 ·refine ⟨by simp [AH.push,L.wf.len],fun b x hx=>?_⟩
  rcases Nat.lt_or_ge b H.n with h | h
  ·rw [old b h] at hx; exact L.wf.fam b x hx
  ·have hb:b=H.n:=by have:=AH.get_lt hx; omega
   subst hb
   rw [new] at hx; cases hx; exact Nat.le_refl _
 ·rcases hb with hb | rfl
  ·obtain ⟨h1,x,h2,h3⟩:=L.fr b hb
   exact ⟨by omega,x,by rw [old b h1]; exact h2,h3⟩
  ·exact ⟨by omega,_,new,rfl⟩
 ·by_cases hb:b=H.n
  ·omega
  ·rw [addP_ne hb] at hp
   have:=L.top b p hp
   omega
mutual
theorem lay {w:World}:∀ (d:D) (v:Value) {φ:Pmap} {F:Nat→Prop} {H:AH},Ly w φ F H→WD w d v →
  ∃ φ' F' H' u,Ly w φ' F' H'∧LyLe φ F H φ' F' H'∧VRel φ' u v∧RD F' H' d u
 | .int k n,v,φ,F,H,L,h=>⟨φ,F,H,v,L,LyLe.refl ..,by simp only [WD] at h; subst h; rfl,h⟩
 | .bool b,v,φ,F,H,L,h=>⟨φ,F,H,v,L,LyLe.refl ..,by simp only [WD] at h; subst h; rfl,h⟩
 | .str s,v,φ,F,H,L,h=>⟨φ,F,H,v,L,LyLe.refl ..,by simp only [WD] at h; subst h; rfl,h⟩
 | .pl u,v,φ,F,H,L,h=>⟨φ,F,H,v,L,LyLe.refl ..,by simp only [WD] at h; obtain ⟨rfl,h1,_⟩:=h; exact (VRel.of_plain _ h1 _).2 rfl,h⟩
 | .sl len cells,v,φ,F,H,L,h=>by
  simp only [WD] at h
  rcases h with ⟨rfl,rfl,rfl | ⟨a,rfl⟩⟩ | ⟨c,o,cap,n,cs,e,fz,rfl,hlc,hn,hlen,hh,ho,hds⟩
  ·exact ⟨φ,F,H,.slice none 0 0,L,LyLe.refl ..,rfl,.inl ⟨rfl,rfl,.inl rfl⟩⟩
  ·obtain ⟨p,hp⟩:=L.pg
   obtain ⟨x,_,_,_,hx,h0,_⟩:=L.rel.dom _ _ hp
   exact ⟨φ,F,H,.slice (some ⟨powG,0,none⟩) 0 0,L,LyLe.refl ..,⟨a,0,rfl,.inr ⟨rfl,rfl,rfl,rfl,p,hp⟩⟩,.inl ⟨rfl,rfl,.inr ⟨_,_,_,rfl,x,hx,h0⟩⟩⟩
  ·obtain ⟨φ1,F1,H1,us,L1,E1,r1,d1⟩:=lays cells _ L hds
   have hl:us.length=cells.length:=by have:=d1.length; omega
   obtain ⟨L2,E2⟩:=L1.push (us:=us) (n:=n) (o:=o) hh (by rw [hl]; simp; omega) (by omega) (by rw [hl]) r1
   refine ⟨_,_,_,.slice (some ⟨H1.n,0,none⟩) len cap,L2,E1.trans E2,?_,?_⟩
   ·refine ⟨⟨c,o,none⟩,cap,rfl,.inl ⟨rfl,rfl,_,addP_same ..,rfl,rfl,.inl rfl⟩⟩
   ·have new:(H1.push (roB H1.n n us)).get H1.n=some (roB H1.n n us):=AH.get_push_new H1 _
    by_cases h0:len=0
    ·subst h0
     exact .inl ⟨rfl,List.eq_nil_of_length_eq_zero (by omega),.inr ⟨_,_,_,rfl,_,new,by simp [roB]⟩⟩
    ·refine .inr ⟨H1.n,0,cap,us,n,rfl,by omega,hlc,hn,hlen,.inr rfl,?_,RDs.mono (E2.leF L1) _ _ d1,_,new,.inl rfl⟩
     rw [readC_of new rfl (by show 0+cells.length≤us.length; omega)]
     show some ((us.drop 0).take cells.length)=_
     rw [List.drop_zero,← hl,List.take_length]
theorem lays {w:World}:∀ (ds:List D) (vs:List Value) {φ:Pmap} {F:Nat→Prop} {H:AH},Ly w φ F H→WDs w ds vs →
  ∃ φ' F' H' us,Ly w φ' F' H'∧LyLe φ F H φ' F' H'∧LRel φ' us vs∧RDs F' H' ds us
 | [],vs,φ,F,H,L,h=>⟨φ,F,H,[],L,LyLe.refl ..,by simp only [WDs] at h; subst h; rfl,rfl⟩
 | d :: ds,vs,φ,F,H,L,h=>by
  simp only [WDs] at h
  obtain ⟨v,vs,rfl,h1,h2⟩:=h
  obtain ⟨φ1,F1,H1,u,L1,E1,r1,d1⟩:=lay d v L h1
  obtain ⟨φ2,F2,H2,us,L2,E2,r2,d2⟩:=lays ds vs L1 h2
  exact ⟨φ2,F2,H2,u :: us,L2,E1.trans E2,⟨v,vs,rfl,VRel.mono E2.le u v r1,r2⟩,⟨u,us,rfl,RD.mono (E2.leF L1) _ _ d1,d2⟩⟩
end
def pads:Nat→List Blk
 | 0=>[]
 | n+1=>unborn :: pads n
theorem pads_len:∀ n,(pads n).length=n
 | 0=>rfl
 | n+1=>by simp [pads,pads_len n]
theorem pads_get:∀ (n i:Nat) (x:Blk),(pads n)[i]? = some x→x=unborn
 | 0,_,_,h=>by simp [pads] at h
 | n+1,0,x,h=>by simp [pads] at h; exact h.symm
 | n+1,i+1,x,h=>pads_get n i x (by simpa [pads] using h)
def powV:List Value:=[.int .u64 1,.int .u64 10,.int .u64 100,.int .u64 1000,.int .u64 10000,.int .u64 100000,.int .u64 1000000,.int .u64 10000000,.int .u64 100000000,.int .u64 1000000000,.int .u64 10000000000,.int .u64 100000000000,
 .int .u64 1000000000000,.int .u64 10000000000000,.int .u64 100000000000000,.int .u64 1000000000000000,.int .u64 10000000000000000,.int .u64 100000000000000000,.int .u64 1000000000000000000,.int .u64 10000000000000000000]
def PowIn (w:World):Prop:=∃ cs e fz,w.heap[powG]? = some (.cells cs e fz)∧20≤cs.size∧powV=cs.toList.take 20
def H00:AH:=⟨powG,pads powG⟩
theorem H00_get {b:Nat} {x:Blk} (h:H00.get b=some x):x=unborn:=by
 unfold AH.get at h
 split at h
 ·exact pads_get _ _ _ h
 ·cases h
theorem start {w:World} (hp:PowIn w):∃ φ F H,Ly w φ F H∧GlobR Y F H:=by
 obtain ⟨cs,e,fz,hh,hsz,hcs⟩:=hp
 let φ:Pmap:=fun b=>if b=powG then some ⟨powG,0,20,1,cs.size,true⟩ else none
 let H:AH:=H00.push (roB powG 1 powV)
 have hn:H.n=powG+1:=rfl
 have new:H.get powG=some (roB powG 1 powV):=AH.get_push_new H00 _
 have old:∀ {b x},b≠powG→H.get b=some x→x=unborn:=fun {b x} hb hx=>by
  rw [show H.get b=H00.get b from AH.get_push (H:=H00) (x:=roB powG 1 powV) (b:=b) hb] at hx
  exact H00_get hx
 have hφ:∀ {b p},φ b=some p→b=powG∧p=⟨powG,0,20,1,cs.size,true⟩:=fun {b p} h=>by
  by_cases hb:b=powG
  ·simp only [φ,hb,if_true,Option.some.injEq] at h; exact ⟨hb,h.symm⟩
  ·simp only [φ,hb,if_false] at h; cases h
 have ro:∀ b x,H.get b=some x→x.wr=false:=fun b x hx=>by
  by_cases hb:b=powG
  ·subst hb; rw [new] at hx; cases hx; rfl
  ·rw [old hb hx]; rfl
 have L:Ly w φ (· = powG) H:=by
  refine ⟨⟨fun g hg=>?_,fun b p hp=>?_,fun b p x i v hp hx h1 hv=>?_,fun b p x i hp hx h1 hi=>?_,fun b b' p p' x x' _ _ hx hx' _ _ _ _=>.inl ⟨ro b x hx,ro b' x' hx'⟩⟩,?_,?_,ro,fun b p hp=>?_,⟨⟨powG,0,20,1,cs.size,true⟩,by simp only [φ,if_true]⟩⟩
  ·have:g=powG:=by simpa [X] using hg
   exact ⟨⟨powG,0,20,1,cs.size,true⟩,by simp only [φ,this,if_true],this.symm,rfl⟩
  ·obtain ⟨rfl,rfl⟩:=hφ hp
   exact ⟨_,cs,e,fz,new,by simp [roB],rfl,rfl,rfl,hh,rfl,by simpa using hsz⟩
  ·obtain ⟨rfl,rfl⟩:=hφ hp
   rw [new] at hx; cases hx
   have hv':powV[i]? = some v:=hv
   refine ⟨v,?_,?_⟩
   ·rw [cell_of_heap hh]
    have hi:i < 20:=(List.getElem?_eq_some_iff.1 hv').1
    rw [hcs,List.getElem?_take_of_lt hi] at hv'
    simpa using hv'
   ·have hm:v ∈ powV:=List.mem_of_getElem? hv'
    have:powV.all plain=true:=rfl
    exact (VRel.of_plain _ (List.all_eq_true.1 this v hm) _).2 rfl
  ·rw [ro b x hx] at h1; cases h1
  ·refine ⟨by show (H00.push _).l.length=_; simp [AH.push,H00,pads_len]; rfl,fun b x hx=>?_⟩
   by_cases hb:b=powG
   ·subst hb; rw [new] at hx; cases hx; exact Nat.le_refl _
   ·rw [old hb hx]; exact Nat.zero_le _
  ·rintro c rfl
   exact ⟨by omega,_,new,rfl⟩
  ·obtain ⟨rfl,_⟩:=hφ hp
   omega
 refine ⟨φ,_,H,L,fun g cs' hg=>?_⟩
 have hgp:g=powG∧cs'=powC:=by
  simp only [Y] at hg
  split at hg
  ·rename_i hb
   exact ⟨Nat.eq_of_beq_eq_true hb,by simpa using hg.symm⟩
  ·cases hg
 obtain ⟨rfl,rfl⟩:=hgp
 refine ⟨Nat.beq_refl _,rfl,powV,?_,?_⟩
 ·rw [readC_of new rfl (by show 0+20≤20; omega)]
  rfl
 ·simp only [powC,powV,RDs,RD]
  simp
end Go.Vm
namespace Go.Vm
open Go Go.Am Go.ChangeShapes Go.WideShapes Go.ChangeAt Go.RowKit
section
variable {HH:Type} {enc:TypeId × Value→HH} {P:Program} {w:World} {base:Nat} {held:Bool}
theorem cell_blk {a:Addr} {v:Value} (h:w.cell? a=some v):∃ cs e fz,w.heap[a.block]? = some (.cells cs e fz)∧a.spot=none∧cs[a.off]? = some v:=by
 unfold World.cell? at h
 split at h
 ·rename_i c e fz hc
  split at h
  ·cases h
  ·rename_i hs
   refine ⟨c,e,fz,hc,?_,h⟩
   cases hq:a.spot with
   | none=>rfl
   | some s=>rw [hq] at hs; simp at hs
 ·cases h
theorem addr_add (a:Addr) (hs:a.spot=none) (i:Nat):a.add i=⟨a.block,a.off+i,none⟩:=by
 unfold Addr.add
 split
 ·rename_i h; subst h; cases a; simp at hs ⊢; exact hs
 ·rfl
theorem cells_blk {a:Addr} {vs:List Value} (h:∀ i v,vs[i]? = some v→w.cell? (a.add i)=some v) (hp:0 < vs.length) :
  ∃ cs e fz,w.heap[a.block]? = some (.cells cs e fz)∧a.spot=none∧a.off+vs.length≤cs.size∧vs=(cs.toList.drop a.off).take vs.length:=by
 obtain ⟨v0,h0⟩:∃ v,vs[0]? = some v:=⟨vs[0],by simp [hp]⟩
 obtain ⟨cs,e,fz,hc,hs,_⟩:=cell_blk (h 0 v0 h0)
 have ha0:a.add 0=a:=by unfold Addr.add; simp
 rw [ha0] at hc hs
 have at_:∀ i v,vs[i]? = some v→cs[a.off+i]? = some v:=fun i v hv=>by
  obtain ⟨cs',e',fz',hc',_,hv'⟩:=cell_blk (h i v hv)
  rw [addr_add a hs] at hc' hv'
  simp only at hc' hv'
  rw [hc] at hc'
  cases hc'
  exact hv'
 have hle:a.off+vs.length≤cs.size:=by
  have hl:=at_ (vs.length - 1) vs[vs.length - 1] (by rw [List.getElem?_eq_getElem])
  have:=(Array.getElem?_eq_some_iff.1 hl).1
  omega
 refine ⟨cs,e,fz,hc,hs,hle,?_⟩
 apply List.ext_getElem?
 intro i
 by_cases hi:i < vs.length
 ·rw [List.getElem?_take_of_lt hi,List.getElem?_drop]
  have:=at_ i vs[i] (by rw [List.getElem?_eq_getElem hi])
  rw [List.getElem?_eq_getElem hi]
  simpa using this.symm
 ·rw [List.getElem?_eq_none (by omega),List.getElem?_eq_none (by simp; omega)]
end
end Go.Vm
namespace Go.Vm
open Go Go.Am Go.ChangeShapes Go.WideShapes Go.ChangeAt Go.RowKit
def KeptW (W W':World):Prop:=W'.os=W.os∧W'.output=W.output∧W.heap.size≤W'.heap.size∧∀ c,c < W.heap.size→W'.heap[c]? = W.heap[c]?
section
variable {H:Type} {enc:TypeId × Value→H} {P:Program}
theorem KeptW.but {W W':World} (h:KeptW W W') (may:MemPlace→Prop):W.keptBut W' may:=by
 refine ⟨h.1,h.2.1,fun i hi=>?_⟩
 rw [h.2.2.2 i hi]
 cases hq:W.heap[i]? with
 | none=>simp
 | some o=>cases o <;> simp
theorem post_kept {f:Func} {s:ChangeSpec} {apart fresh handsOn again:Bool} {W W':World} {args:Array Value} {v:Value} {ds gs:List (DataW H)} {before pa pv:List MemPlace}
  (hW:DataW.Whole enc P f.params.toList s.vars apart W args.toList ds gs before)
  (hres:∀ (b:Nat) (sp:Nat→Bool) (hd:Bool),DataW.TrodAll enc P W' b sp hd f.resultTypes.toList (v.resultList f.resultTypes.size) (s.fn H (ds++gs)).results [])
  (hargs:∀ sp:Nat→Bool,(∀ p ∈ before,sp p.block=true)→DataW.TrodAll enc P W' 0 sp true f.params.toList args.toList (s.fn H (ds++gs)).args pa)
  (hvars:∀ sp:Nat→Bool,(∀ p ∈ before,sp p.block=true)→DataW.TrodVars enc P W' sp s.vars (s.fn H (ds++gs)).vars pv)
  (hps:before=pa++pv) (hk:KeptW W W')
  (hok:∀ (j:Nat) (t:TypeId) (r:Value),f.resultTypes[j]? = some t→(v.resultList f.resultTypes.size)[j]? = some r→Value.okWide P W' .any 0 t r) :
  s.post enc P f apart fresh handsOn again W args v W':=by
 have hold:∀ p ∈ before,(fun b=>decide (b < W.heap.size)) p.block=true:=fun p hp=>by simpa using hW.lt p hp
 have hlt:=hW.lt
 refine ⟨ds,gs,before,[],pa,pv,hW,hres _ _ _,hargs _ hold,hvars _ hold,World.keptBut_mono (fun p hp=>⟨hp,?_⟩) (hk.but (· ∈ before)),fun _=>?_⟩
 ·rw [hps,List.mem_append] at hp
  exact Or.inr hp
 ·obtain ⟨_,_,_,_,_,hz,hn⟩:=hW
  refine ⟨hok,_,_,([]++pa)++pv,⟨[]++pa,pv,trodAll_append (hargs _ (fun _ _=>rfl)) (hres _ _ _),hvars _ (fun _ _=>rfl),rfl,?_,?_⟩,?_⟩
  ·intro b off hp
   have hp':MemPlace.cell b off ∈ before:=by rw [hps]; simpa using hp
   have hb:b < W.heap.size:=hlt _ hp'
   have:=hz b off hp'
   simp only [World.frozen?] at this ⊢
   rw [hk.2.2.2 b hb]
   exact this
  ·intro ha
   have:=hn ha
   rw [hps] at this
   simpa using this
  ·intro p hp _
   rw [hps]
   simpa using hp
theorem trodAll_kept (hl:laidOutB P=true) {W W':World} (hk:KeptW W W') {sp:Nat→Bool}:∀ {ts:List TypeId} {vs:List Value} {ds:List (DataW H)} {ps:List MemPlace},(∀ t ∈ ts,P.readableRec t=true∧t < P.types.size) →
  DataW.TrodAll enc P W 0 (fun _=>true) true ts vs ds ps→(∀ p ∈ ps,p.block < W.heap.size)→(∀ p ∈ ps,sp p.block=true)→DataW.TrodAll enc P W' 0 sp true ts vs ds ps
 | [],vs,ds,ps,_,h,_,_=>by
  obtain ⟨rfl,rfl,rfl⟩:=trodAll_nil h
  exact trodAll_mk0
 | t :: ts,vs,ds,ps,hr,h,hlt,hsp=>by
  obtain ⟨v,vs',d,ds',p,q,rfl,rfl,rfl,h1,h2⟩:=trodAll_cons h
  refine trodAll_cons_mk (WideElems.Trod_stays hl (hr t (by simp)).1 (hr t (by simp)).2 h1 (fun x hx=>?_) fun x hx=>hsp x (by simp [hx])) (trodAll_kept hl hk (fun u hu=>hr u (by simp [hu])) h2 (fun x hx=>hlt x (by simp [hx])) fun x hx=>hsp x (by simp [hx]))
  have hb:=hlt x (by simp [hx])
  cases x with
  | cell b off =>
   simp only [World.sameAt,World.cell?]
   rw [hk.2.2.2 b hb]
  | map b=>exact hk.2.2.2 b hb
end
theorem laid_reads {P:Program} {w:World}:∀ {l:List (String × DataW Unit)} {ps:List MemPlace},DataW.LaidVars P w l ps→∀ n d,(n,d) ∈ l →
  ∃ g t cs fuel p,P.globalNamed n=some g∧(P.globals[g]?).map (·.type)=some t∧w.var? P n=some cs∧DataW.trod (fun _=>()) P w 0 (fun _=>true) false fuel t cs.toList=some (d,p)
 | [],_,_,_,_,hm=>by cases hm
 | (n',d') :: r,ps,h,n,d,hm=>by
  obtain ⟨g,t,cs,fuel,p,q,h1,h2,h3,h4,h5,_⟩:=h
  rcases List.mem_cons.1 hm with e | e
  ·cases e
   exact ⟨g,t,cs,fuel,p,h1,h2,h3,h4⟩
  ·exact laid_reads h5 n d e
def powZ:List Int:=[1,10,100,1000,10000,100000,1000000,10000000,100000000,1000000000,10000000000,100000000000,1000000000000,10000000000000,100000000000000,1000000000000000,10000000000000000,100000000000000000,1000000000000000000,10000000000000000000]
theorem pow_in {P:Program} {W:World} {name:String} {t e:TypeId} (hg:P.globalNamed name=some powG) (hty:(P.globals[powG]?).map (·.type)=some t) (ht:P.underlying t=some (.array 20 e)) (he:P.underlying e=some (.int .u64)) (hce:P.cellsOf e=1) (hct:P.cellsOf t=20)
  {l:List (String × DataW Unit)} (hm:(name,Lib.tabData .u64 powZ) ∈ l) (h:laidMet P l W):PowIn W:=by
 obtain ⟨ps,hv,_⟩:=h
 obtain ⟨g',t',cs,fuel,p,hg',ht',hvar,hd⟩:=laid_reads hv _ _ hm
 obtain rfl:=Option.some.inj (hg.symm.trans hg')
 obtain rfl:=Option.some.inj (hty.symm.trans ht')
 have tab:Lib.TabIs P W name .u64 powZ:=by
  unfold Lib.TabIs
  rw [hvar,← Lib.cells_of_tab ht he hce hct hd]
 have hpv:∀ i v,powV[i]? = some v→W.cell? ((⟨powG,0,none⟩:Addr).add i)=some v:=by
  intro i v hv
  have hi:i < 20:=(List.getElem?_eq_some_iff.1 hv).1
  rw [addr_add _ rfl]
  have h1:=tab.cell hg i hi
  simp only [Nat.zero_add]
  rw [h1]
  have h2:powV=powZ.map fun z=>Value.int .u64 z:=rfl
  rw [h2,List.getElem?_map,Option.map_eq_some_iff] at hv
  obtain ⟨z,hz,rfl⟩:=hv
  simp [hz]
 obtain ⟨cs,e,fz,h1,_,h2,h3⟩:=cells_blk (w:=W) (a:=⟨powG,0,none⟩) (vs:=powV) hpv (by decide)
 exact ⟨cs,e,fz,h1,by simpa [powV] using h2,by simpa [powV] using h3⟩
end Go.Vm
