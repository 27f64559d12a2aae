/- Regions that draw their order: a law by an invariant. Each operation is shown once, for whatever is done when its turn comes. -/
import Derived.Test.YtnljkhlmdacfaaaGreatDoorKCalm
namespace Go.Proofs.YtnljkhlmdacfaaaGreatDoor
open Go Go.Sort Go.RowKit
section
variable {P:Program}{ops:Array Oper}{Q:Exit→Act→World→Prop}
def backB (ops:Array Oper):Bool :=
 (List.range ops.size).all fun j=>match ops[j]? with
  | some o=>o.after.all fun e => !Region.binds .any e||decide (e.on<j)
  | none=>true
theorem getD_false {l:Array Bool}{k n:Nat} (hs:l.size=n) (hk:k<n) (h:l.getD k false=false):l.getD k true=false:=by
 rw[Array.getD_eq_getD_getElem?]at h ⊢
 rw[Array.getElem?_eq_getElem (show k<l.size by omega)]at h ⊢
 exact h
theorem ready_some (hB:backB ops=true){listed:Array Bool} (hs:listed.size=ops.size):∀j,j<ops.size→listed.getD j true=false→Region.ready .any ops listed ≠ []:=by
 intro j
 induction j using Nat.strongRecOn with
 | ind j ih =>
  intro hj hl
  have ho:ops[j]?=some ops[j]:=Array.getElem?_eq_getElem hj
  have hb:=List.all_eq_true.1 hB j (List.mem_range.2 hj)
  rw[ho]at hb
  by_cases h:∀e∈(ops[j]).after,Region.binds .any e=true→listed.getD e.on false=true
  ·intro h0
   have:j∈Region.ready .any ops listed:=mem_ready.2 ⟨hl,_,ho,h⟩
   rw[h0]at this
   exact absurd this List.not_mem_nil
  ·obtain⟨e,he⟩:=Classical.not_forall.1 h
   obtain⟨hm,he⟩:=Classical.not_imp.1 he
   obtain⟨hb2,hf⟩:=Classical.not_imp.1 he
   have h1:=Array.all_eq_true'.1 hb e hm
   rw[hb2]at h1
   simp only[Bool.not_true,Bool.false_or,decide_eq_true_eq]at h1
   exact ih e.on h1 (by omega) (getD_false hs (by omega) (by simpa using hf))
theorem wpAny_inv (I:Array Bool→Act→World→Prop) (hB:backB ops=true)
  (step:∀(listed:Array Bool) (a:Act) (w:World) (i:Nat) (o:Oper),listed.size=ops.size→I listed a w→ops[i]?=some o→listed.getD i true=false→(∀e∈o.after,Region.binds .any e=true→listed.getD e.on false=true) →
   wpOp P ops Q i (I (listed.setIfInBounds i true)) a w)
  (last:∀(listed:Array Bool) (a:Act) (w:World),listed.size=ops.size→(∀j,j<ops.size→listed.getD j true=true)→I listed a w→Q .normal a w) :
  ∀(f:Nat) (listed:Array Bool) (a:Act) (w:World) (l:List Nat),listed.size=ops.size→l.length≤f→(∀j,j<ops.size→listed.getD j true=false→j∈l)→I listed a w→wpAny P .any ops Q f listed a w:=by
 have fin:∀(listed:Array Bool) (a:Act) (w:World),listed.size=ops.size→Region.ready .any ops listed = []→I listed a w→Q .normal a w:=fun listed a w hs h0 hI=>by
  refine last listed a w hs (fun j hj => ?_) hI
  cases h:listed.getD j true with
  | true=>rfl
  | false=>exact absurd h0 (ready_some hB hs j hj h)
 intro f
 induction f with
 | zero =>
  intro listed a w l hs hl hm hI
  have h0:Region.ready .any ops listed = []:=by
   rw[List.eq_nil_iff_forall_not_mem]
   intro i hi
   obtain⟨h1,o,ho,_⟩:=mem_ready.1 hi
   have:=hm i (Array.getElem?_eq_some_iff.1 ho).1 h1
   have e:l = []:=List.eq_nil_of_length_eq_zero (by omega)
   rw[e]at this
   exact absurd this List.not_mem_nil
  exact⟨h0,fin listed a w hs h0 hI⟩
 | succ f ih =>
  intro listed a w l hs hl hm hI
  refine⟨fun h0=>fin listed a w hs h0 hI,fun i hi => ?_⟩
  obtain⟨h1,o,ho,h2⟩:=mem_ready.1 hi
  have hin:i<ops.size:=(Array.getElem?_eq_some_iff.1 ho).1
  have hil:=hm i hin h1
  refine wpOp_mono (fun a' w' h'=>ih _ a' w' (l.erase i) (by simpa using hs) (by rw[List.length_erase_of_mem hil];omega) (fun j hj hjl => ?_) h') (step listed a w i o hs hI ho h1 h2)
  have hne:j≠i:=fun e=>by
   subst e
   rw[Array.getD_eq_getD_getElem?,Array.getElem?_setIfInBounds_self_of_lt (by omega)]at hjl
   exact absurd hjl (by decide)
  refine(List.mem_erase_of_ne hne).2 (hm j hj ?_)
  rw[Array.getD_eq_getD_getElem?,Array.getElem?_setIfInBounds_ne (fun e=>hne e.symm),← Array.getD_eq_getD_getElem?]at hjl
  exact hjl
theorem wp_region_inv {id:Nat}{a:Act}{w:World} (I:Array Bool→Act→World→Prop) (hm:P.follows .mixedOrders=true) (hB:backB ops=true)
  (start:I (Array.replicate ops.size false) a { w with drawn:=w.drawn+1})
  (step:∀(listed:Array Bool) (a:Act) (w:World) (i:Nat) (o:Oper),listed.size=ops.size→I listed a w→ops[i]?=some o→listed.getD i true=false→(∀e∈o.after,Region.binds .any e=true→listed.getD e.on false=true) →
   wpOp P ops Q i (I (listed.setIfInBounds i true)) a w)
  (last:∀(listed:Array Bool) (a:Act) (w:World),listed.size=ops.size→(∀j,j<ops.size→listed.getD j true=true)→I listed a w→Q .normal a w):(Code.region id ops true).wp P Q a w :=
 wp_region_any hm (wpAny_inv I hB step last _ _ _ _ (List.range ops.size) (by simp) (by simp) (fun j hj _=>List.mem_range.2 hj) start)
def dstsB (ops:Array Oper):Bool :=
 (List.range ops.size).all fun j=>(List.range ops.size).all fun k=>j==k||match ops[j]?,ops[k]? with
  | some o,some o'=>match o.dst with
   | some d => !(o'.dst==some d)
   | none=>true
  | _,_=>true
theorem dst_one (h:dstsB ops=true){j k:Nat}{o o':Oper}{d:Tmp} (hj:ops[j]?=some o) (hk:ops[k]?=some o') (dj:o.dst=some d) (dk:o'.dst=some d):j=k:=by
 have h1:=List.all_eq_true.1 h j (List.mem_range.2 (Array.getElem?_eq_some_iff.1 hj).1)
 have h2:=List.all_eq_true.1 h1 k (List.mem_range.2 (Array.getElem?_eq_some_iff.1 hk).1)
 rw[hj,hk]at h2
 simp only[dj,dk,beq_self_eq_true,Bool.not_true,Bool.or_false,beq_iff_eq]at h2
 exact h2
structure Sl (ops:Array Oper) (V:Nat→Value) (a0:Act) (listed:Array Bool) (a:Act):Prop where
 defers:a.defers=a0.defers
 size:a.tmps.size=a0.tmps.size
 new:∀(j:Nat) (o:Oper) (d:Tmp),ops[j]?=some o→o.dst=some d→listed.getD j false=true→d<a.tmps.size→a.tmps[d]?=some (V j)
 old:∀(d:Tmp),(∀(j:Nat) (o:Oper),ops[j]?=some o→o.dst=some d→listed.getD j false=false)→a.tmps[d]?=a0.tmps[d]?
theorem Sl.start (V:Nat→Value) (a0:Act):Sl ops V a0 (Array.replicate ops.size false) a0 :=
 ⟨rfl,rfl,fun j o d hj _ hl _=>by rw[getD_replicate_false]at hl;exact absurd hl (by decide),fun _ _=>rfl⟩
theorem Sl.cast {V V':Nat→Value}{a0 a:Act}{listed:Array Bool} (h:Sl ops V a0 listed a) (k:∀j,listed.getD j false=true→V j=V' j):Sl ops V' a0 listed a :=
 ⟨h.defers,h.size,fun j o d hj hd hl hs=>by rw[← k j hl];exact h.new j o d hj hd hl hs,h.old⟩
theorem Sl.put {V:Nat→Value}{a0 a:Act}{listed:Array Bool}{i:Nat}{o:Oper} (hB:dstsB ops=true) (hs:listed.size=ops.size) (h:Sl ops V a0 listed a) (hi:ops[i]?=some o):Sl ops V a0 (listed.setIfInBounds i true) (a.put o.dst (V i)):=by
 have hin:i<listed.size:=by rw[hs];exact(Array.getElem?_eq_some_iff.1 hi).1
 have get:∀j,(listed.setIfInBounds i true).getD j false=if j=i then true else listed.getD j false:=fun j=>by
  by_cases e:j=i
  ·subst e
   rw[if_pos rfl,Array.getD_eq_getD_getElem?,Array.getElem?_setIfInBounds_self_of_lt hin]
   rfl
  ·rw[if_neg e,Array.getD_eq_getD_getElem?,Array.getElem?_setIfInBounds_ne (fun k=>e k.symm),← Array.getD_eq_getD_getElem?]
 cases hd:o.dst with
 | none =>
  show Sl ops V a0 _ a
  refine⟨h.defers,h.size,fun j o' d hj hd' hl hz => ?_,fun d hn=>h.old d fun j o' hj hd' => ?_⟩
  ·rw[get]at hl
   by_cases e:j=i
   ·subst e
    obtain rfl:o'=o:=Option.some.inj (hj.symm.trans hi)
    rw[hd]at hd'
    cases hd'
   ·rw[if_neg e]at hl
    exact h.new j o' d hj hd' hl hz
  ·have:=hn j o' hj hd'
   rw[get]at this
   by_cases e:j=i
   ·rw[if_pos e]at this;exact absurd this (by decide)
   ·rw[if_neg e]at this;exact this
 | some d0 =>
  refine⟨h.defers,by simp[Act.put,h.size],fun j o' d hj hd' hl hz => ?_,fun d hn => ?_⟩
  ·rw[get]at hl
   by_cases e:j=i
   ·subst e
    obtain rfl:o'=o:=Option.some.inj (hj.symm.trans hi)
    obtain rfl:d0=d:=Option.some.inj (hd.symm.trans hd')
    simp only[Act.put]
    rw[Array.getElem?_setIfInBounds_self_of_lt (by simpa[Act.put]using hz)]
   ·rw[if_neg e]at hl
    have ne:d0≠d:=fun k=>by subst k;exact e (dst_one hB hj hi hd' hd)
    simp only[Act.put]
    rw[Array.getElem?_setIfInBounds_ne ne]
    exact h.new j o' d hj hd' hl (by simpa[Act.put]using hz)
  ·have ne:d0≠d:=fun k=>by
    subst k
    have:=hn i o hi hd
    rw[get,if_pos rfl]at this
    exact absurd this (by decide)
   simp only[Act.put]
   rw[Array.getElem?_setIfInBounds_ne ne]
   refine h.old d fun j o' hj hd' => ?_
   have:=hn j o' hj hd'
   rw[get]at this
   by_cases e:j=i
   ·rw[if_pos e]at this;exact absurd this (by decide)
   ·rw[if_neg e]at this;exact this
theorem Sl.eval {V:Nat→Value}{a0 a:Act}{listed:Array Bool} (h:Sl ops V a0 listed a){j:Nat}{o:Oper}{d:Tmp} (hj:ops[j]?=some o) (hd:o.dst=some d) (hl:listed.getD j false=true) (hz:d<a0.tmps.size):a.eval (.tmp d)=V j:=by
 show a.tmps.getD d undef=_
 rw[Array.getD_eq_getD_getElem?,h.new j o d hj hd hl (by rw[h.size];exact hz)]
 rfl
theorem Sl.keep {V:Nat→Value}{a0 a:Act}{listed:Array Bool} (h:Sl ops V a0 listed a){d:Tmp} (hn:(ops.all fun o => !(o.dst==some d))=true):a.eval (.tmp d)=a0.eval (.tmp d):=by
 show a.tmps.getD d undef=a0.tmps.getD d undef
 rw[Array.getD_eq_getD_getElem?,Array.getD_eq_getD_getElem?,h.old d fun j o hj hd => ?_]
 have h1:=Array.all_eq_true'.1 hn o (Array.mem_of_getElem? hj)
 rw[hd]at h1
 simp at h1
theorem Sl.same {V:Nat→Value}{a0 a b:Act}{listed:Array Bool} (h:Sl ops V a0 listed a) (k:Sl ops V a0 listed b):a=b:=by
 obtain⟨ta,da⟩:=a
 obtain⟨tb,db⟩:=b
 have e1:da=db:=h.defers.trans k.defers.symm
 have e2:ta=tb:=by
  apply Array.ext_getElem?
  intro d
  have s1:ta.size=a0.tmps.size:=h.size
  have s2:tb.size=a0.tmps.size:=k.size
  by_cases hz:d<a0.tmps.size
  ·rcases Classical.em (∃(j:Nat) (o:Oper),ops[j]?=some o∧o.dst=some d∧listed.getD j false=true)with⟨j,o,hj,hd,hl⟩|hn
   ·exact(h.new j o d hj hd hl (by show d<ta.size;omega)).trans (k.new j o d hj hd hl (by show d<tb.size;omega)).symm
   ·have hn':∀(j:Nat) (o:Oper),ops[j]?=some o→o.dst=some d→listed.getD j false=false:=fun j o hj hd=>by
     cases hl:listed.getD j false with
     | false=>rfl
     | true=>exact absurd ⟨j,o,hj,hd,hl⟩ hn
    exact(h.old d hn').trans (k.old d hn').symm
  ·rw[Array.getElem?_eq_none (by omega),Array.getElem?_eq_none (by omega)]
 rw[e1,e2]
def putAll (ops:Array Oper) (V:Nat→Value) (a0:Act):Nat→Act
 | 0=>a0
 | k+1=>match ops[k]? with
  | some o=>(putAll ops V a0 k).put o.dst (V k)
  | none=>putAll ops V a0 k
theorem Sl.run {V:Nat→Value}{a0:Act} (hB:dstsB ops=true):∀k,k≤ops.size→∃L:Array Bool,L.size=ops.size∧(∀j,j<k→L[j]?=some true)∧Sl ops V a0 L (putAll ops V a0 k)
 | 0,_=>⟨Array.replicate ops.size false,by simp,fun j hj=>absurd hj (by omega),Sl.start V a0⟩
 | k+1,hk=>by
  obtain⟨L,h1,h2,h3⟩:=Sl.run (V:=V) (a0:=a0) hB k (by omega)
  have ho:ops[k]?=some ops[k]:=Array.getElem?_eq_getElem (by omega)
  refine⟨L.setIfInBounds k true,by simpa using h1,fun j hj => ?_,?_⟩
  ·by_cases e:j=k
   ·subst e
    rw[Array.getElem?_setIfInBounds_self_of_lt (by omega)]
   ·rw[Array.getElem?_setIfInBounds_ne (fun x=>e x.symm)]
    exact h2 j (by omega)
  ·unfold putAll
   rw[ho]
   exact h3.put hB h1 ho
theorem Sl.done {V:Nat→Value}{a0 a:Act}{listed:Array Bool} (hB:dstsB ops=true) (hs:listed.size=ops.size) (full:∀j,j<ops.size→listed.getD j true=true) (h:Sl ops V a0 listed a):a=putAll ops V a0 ops.size:=by
 obtain⟨L,h1,h2,h3⟩:=Sl.run (V:=V) (a0:=a0) hB ops.size (Nat.le_refl _)
 have e:L=listed:=by
  apply Array.ext_getElem?
  intro j
  by_cases hj:j<ops.size
  ·rw[h2 j hj]
   have:=full j hj
   rw[Array.getD_eq_getD_getElem?,Array.getElem?_eq_getElem (show j<listed.size by omega)]at this
   rw[Array.getElem?_eq_getElem (show j<listed.size by omega)]
   exact congrArg some this.symm
  ·rw[Array.getElem?_eq_none (by omega),Array.getElem?_eq_none (by omega)]
 subst e
 exact h.same h3
theorem inv_value {P:Program}{Q:Exit→Act→World→Prop}{i:Nat}{o:Oper}{a:Act}{w:World}{v:Value}{K:Act→World→Prop} (hi:ops[i]?=some o) (hg:o.guard=none) (hr:(execOp a.eval o).run P w = .ok (.value v) w) (hK:K (a.put o.dst v) w):wpOp P ops Q i K a w:=by
 have hw:Region.wanted o (yielded ops a.tmps)=true:=by unfold Region.wanted;rw[hg]
 unfold wpOp
 simp only[hi,hw,if_true]
 refine .inl ?_
 unfold Oper.wp
 rw[hr]
 exact hK
theorem inv_wp {P:Program}{Q:Exit→Act→World→Prop}{i:Nat}{o:Oper}{a:Act}{w:World}{K:Act→World→Prop} (hi:ops[i]?=some o) (hg:o.guard=none) (h:o.wp P a w K Q):wpOp P ops Q i K a w:=by
 have hw:Region.wanted o (yielded ops a.tmps)=true:=by unfold Region.wanted;rw[hg]
 unfold wpOp
 simp only[hi,hw,if_true]
 exact .inl h
end
end Go.Proofs.YtnljkhlmdacfaaaGreatDoor
