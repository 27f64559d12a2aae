/- Joined: Calm CalmNew CalmLate CalmMany Drew. -/
import Derived.StillTailTactics
import Derived.Lib.QuietBelow
import Derived.BigQuiet
import Derived.Sort.Row
namespace Go.Proofs.YticobgianbecpaaGreatDoor
open Go Go.Sort Go.RowKit
section
variable {P:Program}{ops:Array Oper}{md:Region.Mode}{C:World→Prop}
def headQ (P:Program) (md:Region.Mode) (ops:Array Oper) (C:World→Prop) (n:Nat) (L:Array Bool→Act→Prop):Nat→Array Bool→Act→Prop
 | 0,listed,a=>L listed a
 | f+1,listed,a=>Region.ready md ops listed ≠ []∧∀i∈Region.ready md ops listed,i<n∧qOp P ops C i (headQ P md ops C n L f (listed.setIfInBounds i true)) a
theorem wpAny_of_headQ {n g:Nat}{L:Array Bool→Act→Prop}{Q:Exit→Act→World→Prop} (hL:∀listed a w,C w→L listed a→wpAny P md ops Q g listed a w) :
  ∀(f:Nat) (listed:Array Bool) (a:Act) (w:World),C w→headQ P md ops C n L f listed a→wpAny P md ops Q (f+g) listed a w
 | 0,listed,a,w,hw,h=>by rw[Nat.zero_add];exact hL _ _ _ hw h
 | f+1,listed,a,w,hw,h=>by
  rw[Nat.add_right_comm]
  exact⟨fun h0=>absurd h0 h.1,fun i hi=>wpOp_of_qOp hw (fun a' w' hw' h'=>wpAny_of_headQ hL f _ a' w' hw' h') (h.2 i hi).2⟩
theorem headQ_first {n i:Nat}{oi:Oper}{v:Value}{L:Array Bool→Act→Prop} (hi:ops[i]?=some oi) (hsel:∀(j:Nat) (o:Oper) cs b,ops[j]?=some o→o.op ≠ .select cs b)
  (hs:Region.sinkB md ops n=true) (hc:Region.chainB md ops n=true) (hn:n<ops.size) (hin:i<n)
  (hdone:∀listed a,L listed a→∀j∈Region.ready md ops listed,n≤j) (f:Nat):∀(listed:Array Bool) (a:Act),HeadInv md ops n listed →
   (∀j oj,ops[j]?=some oj→j≠i→listed.getD j true=false→(∀e∈oj.after,Region.binds md e=true→e.on≠i)→oi.apart ops oj=true) →
   i∈Region.ready md ops listed→YieldsIn P ops C oi v a →
   headQ P md ops C n L f (listed.setIfInBounds i true) (a.put oi.dst v)→headQ P md ops C n L (f+1) listed a:=by
 induction f with
 | zero =>
  intro listed a inv _ hr hy H
  refine⟨fun h=>by rw[h]at hr;exact absurd hr List.not_mem_nil,fun j hj => ?_⟩
  have hjn:j<n:=Nat.lt_of_not_le fun h=>tail_waits hs hc hn inv _ i rfl hin (mem_ready.1 hr).1 j h hj
  refine⟨hjn,?_⟩
  by_cases hji:j=i
  ·subst hji;exact hy.qOp hi H
  ·exact absurd (hdone _ _ H j (ready_mono hj hji)) (by omega)
 | succ f ih =>
  intro listed a inv hfree hr hy H
  have hun:=(mem_ready.1 hr).1
  refine⟨fun h=>by rw[h]at hr;exact absurd hr List.not_mem_nil,fun j hj => ?_⟩
  have hjn:j<n:=Nat.lt_of_not_le fun h=>tail_waits hs hc hn inv _ i rfl hin hun j h hj
  refine⟨hjn,?_⟩
  by_cases hji:j=i
  ·subst hji;exact hy.qOp hi H
  obtain⟨hjun,oj,hoj,hall⟩:=mem_ready.1 hj
  have hnot:∀e∈oj.after,Region.binds md e=true→e.on≠i:=fun e he hb heq=>by
   have:=hall e he hb
   rw[heq,getD_both hun]at this
   exact absurd this (by decide)
  have h2:=qOp_put hoj (hfree j oj hoj hji hjun hnot) (fun cs b=>hsel i oi cs b hi) (fun cs b=>hsel j oj cs b hoj) hy (H.2 j (ready_mono hj hji)).2
  have hfree':∀k ok,ops[k]?=some ok→k≠i→(listed.setIfInBounds j true).getD k true=false →
    (∀e∈ok.after,Region.binds md e=true→e.on≠i)→oi.apart ops ok=true:=fun k ok hk hki hu hno=>by
   refine hfree k ok hk hki ?_ hno
   by_cases hjk:j=k
   ·subst hjk;exact hjun
   ·rw[getD_set_ne true hjk]at hu;exact hu
  refine qOp_mono (fun a' h3=>ih (listed.setIfInBounds j true) a' (inv.set hj hjn) hfree' (ready_mono hr (Ne.symm hji)) h3.1 ?_) h2
  rw[Array.setIfInBounds_comm _ _ hji]
  exact h3.2
theorem headQ_lex {n g:Nat}{Lq:Act→Prop} (hsel:Region.noSelect ops=true) (hs:Region.sinkB md ops n=true) (hc:Region.chainB md ops n=true) (hn:n<ops.size) (l:List Oper) :
  ∀(k:Nat) (listed:Array Bool) (a:Act),(∀j,j<l.length→l[j]?=ops[k+j]?)→k+l.length=n→HeadInv md ops n listed →
  Region.lexHead md ops g l.length k listed=true→wpQuiet P ops C Lq l a →
  headQ P md ops C n (fun listed' a'=>Region.seqB md ops g n listed'=true∧Lq a') l.length listed a:=by
 induction l with
 | nil =>
  intro k listed a _ hk _ hB h
  obtain rfl:k=n:=by simpa using hk
  exact⟨by simpa[Region.lexHead]using hB,h⟩
 | cons o l ih =>
  intro k listed a hl hk inv hB h
  have h0:ops[k]?=some o:=by simpa using(hl 0 (by simp)).symm
  simp only[List.length_cons,Region.lexHead,Bool.and_eq_true]at hB
  obtain⟨⟨hr,hf⟩,hB'⟩:=hB
  have hkn:k<n:=by simp only[List.length_cons]at hk;omega
  have hr':k∈Region.ready md ops listed:=by simpa using hr
  have hq:qOp P ops C k (wpQuiet P ops C Lq l) a:=by unfold qOp;simp only[h0];exact h
  obtain⟨v,hy,hK⟩:=yieldsIn_of_qOp h0 hq
  exact headQ_first h0 (Region.noSelect_spec hsel) hs hc hn hkn (fun listed' a' hL=>seqB_ready hL.1) l.length listed a inv (Region.free_spec h0 hf) hr' hy
   (ih (k+1) _ _ (fun j hj=>by have:=hl (j+1) (by simp;omega);simpa[Nat.add_assoc,Nat.add_comm 1 j]using this) (by simp only[List.length_cons]at hk;omega) (inv.set hr' hkn) hB' hK)
theorem wp_region_calm {id:Nat}{Q:Exit→Act→World→Prop}{a:Act}{w:World}{l:List Oper} (n:Nat) (hm:P.follows .mixedOrders=true) (hB:Region.lexTailB .any l.toArray n=true)
  (hC:C { w with drawn:=w.drawn+1}) (h:wpQuiet P l.toArray C (fun a'=>∀w',C w'→wpList P l.toArray Q (l.drop n) a' w') (l.take n) a):(Code.region id l.toArray true).wp P Q a w:=by
 simp only[Region.lexTailB,Bool.and_eq_true,decide_eq_true_eq]at hB
 obtain⟨⟨⟨⟨hsel,hn⟩,hs⟩,hc⟩,hlex⟩:=hB
 have hn':n<l.length:=by simpa using hn
 have htl:(l.take n).length=n:=by simp;omega
 have hdl:(l.drop n).length=l.toArray.size-n:=by simp
 have inv0:HeadInv .any l.toArray n (Array.replicate l.toArray.size false) :=
  ⟨by simp,fun j oj _ hl=>absurd hl (by rw[getD_replicate_false];decide),fun t _ ht=>getD_in (by simpa using ht) (getD_replicate_false _ _)⟩
 have H:=headQ_lex (md := .any) (g:=l.toArray.size-n) hsel hs hc hn (l.take n) 0 _ a (fun j hj=>by
  have hj':j<n:=by rw[htl]at hj;exact hj
  simp[hj']) (by simpa using htl) inv0 (by rw[htl];exact hlex) h
 refine wp_region_any hm ?_
 have:=wpAny_of_headQ (Q:=Q) (g:=l.toArray.size-n) (fun listed a' w' hw hL=>by
  have:=wpAny_of_seq (md := .any) (Q':=Q) (l.drop n) n listed a' w' (fun j=>by simp[List.getElem?_drop]) (by rw[hdl];exact hL.1) (hL.2 w' hw)
  rwa [hdl]at this) _ _ _ _ hC H
 rw[htl,show n+(l.toArray.size-n)=l.toArray.size by omega]at this
 exact this
end
theorem calm {P:Program}{id:Nat}{Q:Exit→Act→World→Prop}{a:Act}{w:World}{l:List Oper} (n:Nat) (hm:P.follows .mixedOrders=true) (hB:Region.lexTailB .any l.toArray n=true)
  (h:(∀b,b<w.heap.size→∀d os o,(grow (redrawn w d) os).cell? ⟨b,o,none⟩=w.cell? ⟨b,o,none⟩) →
   wpQuiet P l.toArray (fun w'=>∃p:Regrown,w'=grow (redrawn w p.d) p.os) (fun a'=>∀w',Below w.heap.size w w'→wpList P l.toArray Q (l.drop n) a' w') (l.take n) a):(Code.region id l.toArray true).wp P Q a w :=
 wp_region_calm (C:=fun w'=>∃p:Regrown,w'=grow (redrawn w p.d) p.os) n hm hB ⟨⟨w.drawn+1,#[]⟩,by rw[grow_empty];rfl⟩
  (by
   have h1:=h fun b hb d os o=>(below_regrown w d os).cell (p:=⟨b,o,none⟩) hb
   have e:(fun a'=>∀w',Below w.heap.size w w'→wpList P l.toArray Q (l.drop n) a' w')=(fun a'=>∀w',(∃p:Regrown,w'=grow (redrawn w p.d) p.os)→wpList P l.toArray Q (l.drop n) a' w'):=by
    funext a'
    refine propext ⟨fun k w' ⟨p,hp⟩=>k w' (by rw[hp];exact below_regrown w p.d p.os),fun k w' hb=>k w' (regrown_of_below hb)⟩
   rw[e]at h1
   exact h1)
theorem calm_all {P:Program}{id:Nat}{Q:Exit→Act→World→Prop}{a:Act}{w:World}{l:List Oper} (hm:P.follows .mixedOrders=true) (hB:Region.lexB .any l.toArray=true)
  (h:(∀b,b<w.heap.size→∀d os o,(grow (redrawn w d) os).cell? ⟨b,o,none⟩=w.cell? ⟨b,o,none⟩) →
   wpQuiet P l.toArray (fun w'=>∃p:Regrown,w'=grow (redrawn w p.d) p.os) (fun a'=>∀w',Below w.heap.size w w'→Q .normal a' w') l a):(Code.region id l.toArray true).wp P Q a w :=
 wp_region_quiet_below hm hB
  (by
   have h1:=h fun b hb d os o=>(below_regrown w d os).cell (p:=⟨b,o,none⟩) hb
   have e:(fun a'=>∀w',Below w.heap.size w w'→Q .normal a' w')=(fun a'=>∀w',(∃p:Regrown,w'=grow (redrawn w p.d) p.os)→Q .normal a' w'):=by
    funext a'
    refine propext ⟨fun k w' ⟨p,hp⟩=>k w' (by rw[hp];exact below_regrown w p.d p.os),fun k w' hb=>k w' (regrown_of_below hb)⟩
   rw[e]at h1
   exact h1)
theorem calm_call {P:Program}{f:FuncId}{args:Array Value}{w:World}{d:Nat}{os:Array Obj}{v:Value} (h:∀w,Calls P f args w fun e w'=>e = .returned v∧Below w.heap.size w w') :
  Calls P f args (grow (redrawn w d) os) fun e w''=>e = .returned v∧∃p:Regrown,w''=grow (redrawn w p.d) p.os:=Calls.regrown_of (h _)
theorem calm_same {P:Program}{f:FuncId}{args:Array Value}{w:World}{d:Nat}{os:Array Obj}{v:Value} (h:∀w,Calls P f args w fun e w'=>e = .returned v∧w'=w) :
  Calls P f args (grow (redrawn w d) os) fun e w''=>e = .returned v∧∃p:Regrown,w''=grow (redrawn w p.d) p.os:=(h _).mono fun _ _ ⟨a,b⟩=>⟨a,⟨d,os⟩,b⟩
end Go.Proofs.YticobgianbecpaaGreatDoor
namespace Go.Proofs.YticobgianbecpaaGreatDoor
open Go Go.Sort Go.RowKit
section
variable {P:Program}{ops:Array Oper}{md:Region.Mode}{W:World}
def gw (W:World) (p:Regrown):World:=grow (redrawn W p.d) p.os
def Bel (w w':World):Prop:=Below w.heap.size w w'
def cUpon (P:Program) (w:World) (v:Value):Result Next→Prop
 | .ok (.value u) w'=>w'=w∧u=v
 | .ok .skip w'=>w'=w∧v=undef
 | .ok (.enter f args) w'=>w'=w∧Calls P f args w (fun e w''=>e = .returned v∧Bel w w'')
 | _=>False
def cAt (P:Program) (o:Oper) (a:Act) (W:World) (v:Value):Prop:=∀p:Regrown,cUpon P (gw W p) v ((execOp a.eval o).run P (gw W p))
def calmOp (P:Program) (o:Oper) (a:Act) (W:World) (next:Act→Prop):Prop:=∃v,cAt P o a W v∧next (a.put o.dst v)
theorem quiet_of_calm {C:World→Prop}{o:Oper}{a:Act}{K:Act→Prop} (hsub:∀w,C w→Below W.heap.size W w) (hcl:∀w w',C w→Below w.heap.size w w'→C w') (h:calmOp P o a W K):o.quiet P a C K:=by
 obtain⟨v,h1,h2⟩:=h
 refine⟨v,fun w hw => ?_,h2⟩
 obtain⟨p,rfl⟩:=regrown_of_below (hsub w hw)
 have h3:=h1 p
 unfold gw at h3
 unfold Oper.quietAt
 generalize (execOp a.eval o).run P (grow (redrawn W p.d) p.os)=r at *
 cases r with
 | halt x w'=>exact h3
 | ok n w' =>
  cases n with
  | value u=>exact h3
  | skip=>exact h3
  | enter f args=>exact⟨h3.1,h3.2.mono fun _ w'' ⟨he,hb⟩=>⟨he,hcl _ _ hw hb⟩⟩
  | _=>exact h3
def cOp (P:Program) (ops:Array Oper) (W:World) (i:Nat) (K:Act→Prop) (a:Act):Prop :=
 match ops[i]? with
 | none=>K a
 | some o=>if Region.wanted o (yielded ops a.tmps)then calmOp P o a W K else K (a.put o.dst undef)
theorem cOp_quiet {C:World→Prop}{i:Nat}{a:Act}{K:Act→Prop} (hsub:∀w,C w→Below W.heap.size W w) (hcl:∀w w',C w→Below w.heap.size w w'→C w') (h:cOp P ops W i K a):qOp P ops C i K a:=by
 unfold cOp at h
 unfold qOp
 split
 ·rename_i ho;simpa[ho]using h
 ·rename_i o ho
  simp only[ho]at h
  split
  ·rename_i hw;simp only[hw,if_true]at h;exact quiet_of_calm hsub hcl h
  ·rename_i hw;simpa[hw]using h
def cYields (P:Program) (ops:Array Oper) (W:World) (o:Oper) (v:Value) (a:Act):Prop :=
 (Region.wanted o (yielded ops a.tmps)=true∧cAt P o a W v)∨(Region.wanted o (yielded ops a.tmps)=false∧v=undef)
theorem cYields.cOp {i:Nat}{o:Oper}{v:Value}{a:Act} (hi:ops[i]?=some o) (hy:cYields P ops W o v a){K:Act→Prop} (h:K (a.put o.dst v)):cOp P ops W i K a:=by
 unfold YticobgianbecpaaGreatDoor.cOp
 simp only[hi]
 rcases hy with⟨hw,hv⟩|⟨hw,rfl⟩
 ·simp only[hw,if_true];exact⟨v,hv,h⟩
 ·simp only[hw,Bool.false_eq_true,if_false];exact h
theorem cYields_of {i:Nat}{o:Oper}{a:Act}{K:Act→Prop} (hi:ops[i]?=some o) (h:cOp P ops W i K a):∃v,cYields P ops W o v a∧K (a.put o.dst v):=by
 unfold cOp at h
 simp only[hi]at h
 by_cases hw:Region.wanted o (yielded ops a.tmps)=true
 ·simp only[hw,if_true]at h
  obtain⟨v,h1,h2⟩:=h
  exact⟨v,.inl ⟨hw,h1⟩,h2⟩
 ·exact⟨undef,.inr ⟨by simpa using hw,rfl⟩,by simpa[hw]using h⟩
theorem cYields.of_same {o:Oper}{v:Value}{a a':Act} (hy:cYields P ops W o v a) (he:execOp a'.eval o=execOp a.eval o)
  (hw:Region.wanted o (yielded ops a'.tmps)=Region.wanted o (yielded ops a.tmps)):cYields P ops W o v a':=by
 unfold cYields cAt at *
 rw[he,hw]
 exact hy
theorem cYields.put {o:Oper}{v:Value}{a:Act} (hs:∀cs b,o.op ≠ .select cs b){dst:Option Tmp} (u:Value) (hd:∀d,dst=some d→d∉o.looksAt ops) (hy:cYields P ops W o v a):cYields P ops W o v (a.put dst u) :=
 hy.of_same (execOp_put o hs a dst u hd) (wanted_put o a dst u hd)
theorem cYields.unput {o:Oper}{v:Value}{a:Act} (hs:∀cs b,o.op ≠ .select cs b){dst:Option Tmp} (u:Value) (hd:∀d,dst=some d→d∉o.looksAt ops) (hy:cYields P ops W o v (a.put dst u)):cYields P ops W o v a :=
 hy.of_same (execOp_put o hs a dst u hd).symm (wanted_put o a dst u hd).symm
def headN (P:Program) (md:Region.Mode) (ops:Array Oper) (W:World) (k:Nat) (L:Array Bool→Act→Prop):Nat→Array Bool→Act→Prop
 | 0,listed,a=>L listed a
 | f+1,listed,a=>(∃i∈Region.ready md ops listed,i≠k)∧∀i∈Region.ready md ops listed,i≠k→i<k∧cOp P ops W i (headN P md ops W k L f (listed.setIfInBounds i true)) a
theorem headN_first {k i:Nat}{oi:Oper}{v:Value}{L:Array Bool→Act→Prop} (hi:ops[i]?=some oi) (hsel:∀(j:Nat) (o:Oper) cs b,ops[j]?=some o→o.op ≠ .select cs b)
  (hs:Region.sinkB md ops (k+1)=true) (hc:Region.chainB md ops (k+1)=true) (hn:k+1<ops.size) (hin:i<k)
  (hdone:∀listed a,L listed a→∀j∈Region.ready md ops listed,j=k) (f:Nat):∀(listed:Array Bool) (a:Act),HeadInv md ops (k+1) listed →
   (∀j oj,ops[j]?=some oj→j≠i→listed.getD j true=false→(∀e∈oj.after,Region.binds md e=true→e.on≠i)→oi.apart ops oj=true) →
   i∈Region.ready md ops listed→cYields P ops W oi v a →
   headN P md ops W k L f (listed.setIfInBounds i true) (a.put oi.dst v)→headN P md ops W k L (f+1) listed a:=by
 induction f with
 | zero =>
  intro listed a inv _ hr hy H
  refine⟨⟨i,hr,by omega⟩,fun j hj hjk => ?_⟩
  have hjn:j<k+1:=Nat.lt_of_not_le fun h=>tail_waits hs hc hn inv _ i rfl (by omega) (mem_ready.1 hr).1 j h hj
  refine⟨by omega,?_⟩
  by_cases hji:j=i
  ·subst hji;exact hy.cOp hi H
  ·exact absurd (hdone _ _ H j (ready_mono hj hji)) hjk
 | succ f ih =>
  intro listed a inv hfree hr hy H
  have hun:=(mem_ready.1 hr).1
  refine⟨⟨i,hr,by omega⟩,fun j hj hjk => ?_⟩
  have hjn:j<k+1:=Nat.lt_of_not_le fun h=>tail_waits hs hc hn inv _ i rfl (by omega) hun j h hj
  refine⟨by omega,?_⟩
  by_cases hji:j=i
  ·subst hji;exact hy.cOp hi H
  obtain⟨hjun,oj,hoj,hall⟩:=mem_ready.1 hj
  have hnot:∀e∈oj.after,Region.binds md e=true→e.on≠i:=fun e he hb heq=>by
   have:=hall e he hb
   rw[heq,getD_both hun]at this
   exact absurd this (by decide)
  obtain⟨u,hyj,hK⟩:=cYields_of hoj (H.2 j (ready_mono hj hji) hjk).2
  obtain⟨a1,a2,a3⟩:=Oper.apart_spec (hfree j oj hoj hji hjun hnot)
  have hyj':cYields P ops W oj u a:=hyj.unput (fun cs b=>hsel j oj cs b hoj) v a1
  refine hyj'.cOp hoj (ih (listed.setIfInBounds j true) _ (inv.set hj hjn) (fun k' ok hk hki hu hno => ?_) (ready_mono hr (Ne.symm hji)) (hy.put (fun cs b=>hsel i oi cs b hi) u a3) ?_)
  ·refine hfree k' ok hk hki ?_ hno
   by_cases hjk':j=k'
   ·subst hjk';exact hjun
   ·rw[getD_set_ne true hjk']at hu;exact hu
  ·rw[Array.setIfInBounds_comm _ _ hji,← Act.put_comm a v u a2]
   exact hK
def wpCalm (P:Program) (ops:Array Oper) (W:World) (Q:Act→Prop):List Oper→Act→Prop
 | [],a=>Q a
 | o::rest,a=>if Region.wanted o (yielded ops a.tmps)then calmOp P o a W (wpCalm P ops W Q rest)else wpCalm P ops W Q rest (a.put o.dst undef)
theorem headN_lex {k g:Nat}{Lq:Act→Prop} (hsel:Region.noSelect ops=true) (hs:Region.sinkB md ops (k+1)=true) (hc:Region.chainB md ops (k+1)=true) (hn:k+1<ops.size)
  (hseq:∀listed,Region.seqB md ops g k listed=true→∀j∈Region.ready md ops listed,j=k) (l:List Oper) :
  ∀(m:Nat) (listed:Array Bool) (a:Act),(∀j,j<l.length→l[j]?=ops[m+j]?)→m+l.length=k→HeadInv md ops (k+1) listed →
  Region.lexHead md ops g l.length m listed=true→wpCalm P ops W Lq l a →
  headN P md ops W k (fun listed' a'=>Region.seqB md ops g k listed'=true∧Lq a') l.length listed a:=by
 induction l with
 | nil =>
  intro m listed a _ hk _ hB h
  obtain rfl:m=k:=by simpa using hk
  exact⟨by simpa[Region.lexHead]using hB,h⟩
 | cons o l ih =>
  intro m listed a hl hk inv hB h
  have h0:ops[m]?=some o:=by simpa using(hl 0 (by simp)).symm
  simp only[List.length_cons,Region.lexHead,Bool.and_eq_true]at hB
  obtain⟨⟨hr,hf⟩,hB'⟩:=hB
  have hkn:m<k:=by simp only[List.length_cons]at hk;omega
  have hr':m∈Region.ready md ops listed:=by simpa using hr
  have hq:cOp P ops W m (wpCalm P ops W Lq l) a:=by unfold cOp;simp only[h0];exact h
  obtain⟨v,hy,hK⟩:=cYields_of h0 hq
  exact headN_first h0 (Region.noSelect_spec hsel) hs hc hn hkn (fun listed' a' hL=>hseq _ hL.1) l.length listed a inv (Region.free_spec h0 hf) hr' hy
   (ih (m+1) _ _ (fun j hj=>by have:=hl (j+1) (by simp;omega);simpa[Nat.add_assoc,Nat.add_comm 1 j]using this) (by simp only[List.length_cons]at hk;omega) (inv.set hr' (by omega)) hB' hK)
theorem headQ_of_headN {C:World→Prop}{k:Nat}{ok:Oper}{u:Value}{L L':Array Bool→Act→Prop} (hsub:∀w,C w→Below W.heap.size W w) (hcl:∀w w',C w→Below w.heap.size w w'→C w')
  (hk:ops[k]?=some ok) (hsel:∀(j:Nat) (o:Oper) cs b,ops[j]?=some o→o.op ≠ .select cs b)
  (hs:Region.sinkB md ops (k+1)=true) (hc:Region.chainB md ops (k+1)=true) (hn:k+1<ops.size)
  (hap:∀i oi,i<k→ops[i]?=some oi→ok.apart ops oi=true∧∀e∈oi.after,Region.binds md e=true→e.on≠k)
  (hL:∀listed a,listed.getD k true=false→L listed a→L' (listed.setIfInBounds k true) (a.put ok.dst u)) (f:Nat) :
  ∀(listed:Array Bool) (a:Act),HeadInv md ops (k+1) listed→k∈Region.ready md ops listed→headN P md ops W k L f listed a →
   headQ P md ops C (k+1) L' f (listed.setIfInBounds k true) (a.put ok.dst u):=by
 induction f with
 | zero=>intro listed a _ hkr h;exact hL _ _ (mem_ready.1 hkr).1 h
 | succ f ih =>
  intro listed a inv hkr h
  obtain⟨⟨i0,hi0,hi0k⟩,hall⟩:=h
  have hi0lt:=(hall i0 hi0 hi0k).1
  have invk:=inv.set hkr (by omega)
  have hun0:(listed.setIfInBounds k true).getD i0 true=false:=by rw[getD_set_ne true (by omega)];exact(mem_ready.1 hi0).1
  refine⟨fun h0=>absurd (ready_mono hi0 hi0k) (by rw[h0];exact List.not_mem_nil),fun j hj => ?_⟩
  have hjn:j<k+1:=Nat.lt_of_not_le fun h=>tail_waits hs hc hn invk _ i0 rfl (by omega) hun0 j h hj
  obtain⟨hjun,oj,hoj,hdeps⟩:=mem_ready.1 hj
  have hjk:j≠k:=by
   rintro rfl
   have hsz:j<listed.size:=by rw[inv.size];omega
   simp[hsz]at hjun
  have hjr:j∈Region.ready md ops listed:=by
   refine mem_ready.2 ⟨by rw[getD_set_ne true (Ne.symm hjk)]at hjun;exact hjun,oj,hoj,fun e he hb => ?_⟩
   have h1:=hdeps e he hb
   rw[getD_set_ne false (Ne.symm ((hap j oj (by omega) hoj).2 e he hb))]at h1
   exact h1
  refine⟨hjn,?_⟩
  obtain⟨_,hcop⟩:=hall j hjr hjk
  obtain⟨v,hy,hK⟩:=cYields_of hoj hcop
  obtain⟨a1,a2,a3⟩:=Oper.apart_spec (hap j oj (by omega) hoj).1
  refine cOp_quiet hsub hcl ((hy.put (fun cs b=>hsel j oj cs b hoj) u a1).cOp hoj ?_)
  rw[Array.setIfInBounds_comm _ _ (Ne.symm hjk),Act.put_comm a u v a2]
  exact ih _ _ (inv.set hjr (by omega)) (ready_mono hkr (Ne.symm hjk)) hK
theorem bl_call' {w w1 w':World} (h:Below w.heap.size w w1) (hb:Below w1.heap.size w1 w'):Below w.heap.size w w':=h.trans (hb.mono h.size)
structure NewVar (W:World) (B:Nat) (cs:Array Value) (w:World):Prop where
 below:Below W.heap.size W w
 lo:W.heap.size≤B
 hi:B<w.heap.size
 cell:∀o,w.cell? ⟨B,o,none⟩=cs[o]?
 free:∀o,w.frozen? ⟨B,o,none⟩=false
theorem NewVar.later {W w w':World}{B:Nat}{cs:Array Value} (h:NewVar W B cs w) (hb:Below w.heap.size w w'):NewVar W B cs w' :=
 ⟨bl_call' h.below hb,h.lo,Nat.lt_of_lt_of_le h.hi hb.size,fun o=>(hb.cell (p:=⟨B,o,none⟩) h.hi).trans (h.cell o),fun o=>(hb.frozen (p:=⟨B,o,none⟩) h.hi).trans (h.free o)⟩
theorem newVar_alloc {W w:World}{cs:Array Value}{t:TypeId} (hb:Below W.heap.size W w):NewVar W w.heap.size cs (w.alloc (.cells cs t)):=by
 have e:(w.alloc (.cells cs t)).heap[w.heap.size]?=some (.cells cs t):=by show(w.heap.push _)[w.heap.size]?=_;simp
 refine⟨hb.alloc hb.size _,hb.size,by show w.heap.size<(w.heap.push _).size;simp,fun o => ?_,fun o => ?_⟩
 ·simp only[World.cell?,e];rfl
 ·simp only[World.frozen?,e];simp
theorem wpAny_new {k g:Nat}{ok:Oper}{cs:Array Value}{t:TypeId}{L:Array Bool→Act→Prop}{L':Nat→Array Bool→Act→Prop}{Q:Exit→Act→World→Prop}
  (hk:ops[k]?=some ok) (hg:ok.guard=none) (hal:∀a w,(execOp (Act.eval a) ok).run P w = .ok (.value (.pointer (some ⟨w.heap.size,0,none⟩))) (w.alloc (.cells cs t)))
  (hsel:∀(j:Nat) (o:Oper) cs b,ops[j]?=some o→o.op ≠ .select cs b)
  (hs:Region.sinkB md ops (k+1)=true) (hc:Region.chainB md ops (k+1)=true) (hn:k+1<ops.size)
  (hap:∀i oi,i<k→ops[i]?=some oi→ok.apart ops oi=true∧∀e∈oi.after,Region.binds md e=true→e.on≠k)
  (hdone:∀listed a,L listed a→∀j∈Region.ready md ops listed,j=k)
  (hL:∀B listed a,listed.getD k true=false→L listed a→L' B (listed.setIfInBounds k true) (a.put ok.dst (.pointer (some ⟨B,0,none⟩))))
  (hfin:∀B listed a w,NewVar W B cs w→L' B listed a→wpAny P md ops Q g listed a w) (f:Nat) :
  ∀(listed:Array Bool) (a:Act) (w:World),HeadInv md ops (k+1) listed→k∈Region.ready md ops listed→Below W.heap.size W w→headN P md ops W k L f listed a→wpAny P md ops Q (f+(g+1)) listed a w:=by
 have halloc:∀f (listed:Array Bool) (a:Act) (w:World),HeadInv md ops (k+1) listed→k∈Region.ready md ops listed→Below W.heap.size W w→headN P md ops W k L f listed a →
   wpOp P ops Q k (wpAny P md ops Q (f+g) (listed.setIfInBounds k true)) a w:=by
  intro f listed a w inv hkr hw h
  unfold wpOp
  simp only[hk]
  rw[if_pos (by unfold Region.wanted;rw[hg])]
  refine .inl ?_
  unfold Oper.wp
  rw[hal]
  exact wpAny_of_headQ (C:=NewVar W w.heap.size cs) (fun listed' a' w' hw' h'=>hfin w.heap.size listed' a' w' hw' h') f _ _ _ (newVar_alloc hw)
   (headQ_of_headN (fun w h=>h.below) (fun w w' h hb=>h.later hb) hk hsel hs hc hn hap (fun listed a hu hl=>hL w.heap.size listed a hu hl) f listed a inv hkr h)
 induction f with
 | zero =>
  intro listed a w inv hkr hw h
  rw[Nat.zero_add]
  refine⟨fun h0=>absurd hkr (by rw[h0];exact List.not_mem_nil),fun i hi => ?_⟩
  obtain rfl:=hdone _ _ h i hi
  have:=halloc 0 listed a w inv hkr hw h
  rwa [Nat.zero_add]at this
 | succ f ih =>
  intro listed a w inv hkr hw h
  rw[show f+1+(g+1)=(f+(g+1))+1 from by omega]
  refine⟨fun h0=>absurd hkr (by rw[h0];exact List.not_mem_nil),fun i hi => ?_⟩
  by_cases hik:i=k
  ·subst hik
   have:=halloc (f+1) listed a w inv hkr hw h
   rwa [show f+1+g=f+(g+1)from by omega]at this
  ·obtain⟨hlt,hcop⟩:=h.2 i hi hik
   exact wpOp_of_qOp (C:=Below W.heap.size W) hw (fun a' w' hw' h'=>ih _ a' w' (inv.set hi (by omega)) (ready_mono hkr (Ne.symm hik)) hw' h')
    (cOp_quiet (fun _ h=>h) (fun w w' h hb=>bl_call' h hb) hcop)
def newB (md:Region.Mode) (ops:Array Oper) (k:Nat):Bool :=
 Region.noSelect ops&&decide (k+1<ops.size)&&Region.sinkB md ops (k+1)&&Region.chainB md ops (k+1)&&Region.lexHead md ops (ops.size-k) k 0 (Array.replicate ops.size false) &&
 (match ops[k]? with
  | some ok=>ok.after.isEmpty&&ok.guard.isNone&&(List.range k).all fun i=>match ops[i]? with|some oi=>ok.apart ops oi&&oi.after.all fun e => !(Region.binds md e&&e.on==k)|none=>true
  | none=>false)
end
theorem lexHead_seq {md:Region.Mode}{ops:Array Oper}{g k:Nat}{listed:Array Bool} (h:Region.seqB md ops (g+1) k listed=true):Region.ready md ops listed = [k]∧Region.seqB md ops g (k+1) (listed.setIfInBounds k true)=true:=by
 simpa[Region.seqB]using h
theorem calm_any {P:Program}{Q:Exit→Act→World→Prop}{a:Act}{w:World}{l:List Oper} (k:Nat) (cs:Array Value) (t:TypeId) (ok:Oper) (hk:l[k]?=some ok) (hB:newB .any l.toArray k=true)
  (hal:∀a w,(execOp (Act.eval a) ok).run P w = .ok (.value (.pointer (some ⟨w.heap.size,0,none⟩))) (w.alloc (.cells cs t)))
  (h:wpCalm P l.toArray w (fun a'=>∀B w',NewVar w B cs w'→wpList P l.toArray Q (l.drop (k+1)) (a'.put ok.dst (.pointer (some ⟨B,0,none⟩))) w') (l.take k) a) :
  wpAny P .any l.toArray Q l.toArray.size (Array.replicate l.toArray.size false) a { w with drawn:=w.drawn+1} := by
 have hk':l.toArray[k]?=some ok:=by simpa using hk
 unfold newB at hB
 simp only[Bool.and_eq_true,decide_eq_true_eq,hk']at hB
 obtain⟨⟨⟨⟨⟨hsel,hn⟩,hs⟩,hc⟩,hlex⟩,⟨hae,hgn⟩,hapB⟩:=hB
 have hap:∀i oi,i<k→l.toArray[i]?=some oi→ok.apart l.toArray oi=true∧∀e∈oi.after,Region.binds .any e=true→e.on≠k:=fun i oi hi hoi=>by
  have h1:=List.all_eq_true.1 hapB i (List.mem_range.2 hi)
  simp only[hoi,Bool.and_eq_true]at h1
  refine⟨h1.1,fun e he hb hek => ?_⟩
  have h2:=Array.all_eq_true'.1 h1.2 e he
  rw[hb,hek]at h2
  simp at h2
 have hn':k+1<l.length:=by simpa using hn
 have htl:(l.take k).length=k:=by simp;omega
 have hdl:(l.drop (k+1)).length=l.toArray.size-(k+1):=by simp
 have inv0:HeadInv .any l.toArray (k+1) (Array.replicate l.toArray.size false) :=
  ⟨by simp,fun j oj _ hl=>absurd hl (by rw[getD_replicate_false];decide),fun t _ ht=>getD_in (by simpa using ht) (getD_replicate_false _ _)⟩
 have hkr:k∈Region.ready .any l.toArray (Array.replicate l.toArray.size false) :=
  mem_ready.2 ⟨getD_in (by simp;omega) (getD_replicate_false _ _),ok,hk',fun e he _=>absurd he (by simp only[Array.isEmpty_iff]at hae;rw[hae];simp)⟩
 have eg:l.toArray.size-k=(l.toArray.size-(k+1))+1:=by omega
 rw[eg]at hlex
 have H:=headN_lex (md := .any) (g:=l.toArray.size-(k+1)+1) (W:=w) hsel hs hc hn (fun listed hq j hj=>by rw[(lexHead_seq hq).1]at hj;simpa using hj) (l.take k) 0 _ a (fun j hj=>by
  have hj':j<k:=by rw[htl]at hj;exact hj
  simp[hj']) (by simpa using htl) inv0 (by rw[htl];exact hlex) h
 have:=wpAny_new (md := .any) (Q:=Q) (g:=l.toArray.size-(k+1)) (cs:=cs) (t:=t) (W:=w)
  (L':=fun B listed a'=>Region.seqB .any l.toArray (l.toArray.size-(k+1)) (k+1) listed=true∧∀w',NewVar w B cs w'→wpList P l.toArray Q (l.drop (k+1)) a' w')
  hk' (by simpa using hgn) hal (Region.noSelect_spec hsel) hs hc hn hap (fun listed a' hL j hj=>by rw[(lexHead_seq hL.1).1]at hj;simpa using hj)
  (fun B listed a' _ hL=>⟨(lexHead_seq hL.1).2,fun w' hw'=>hL.2 B w' hw'⟩)
  (fun B listed a' w' hw' hL=>by
   have:=wpAny_of_seq (md := .any) (Q':=Q) (l.drop (k+1)) (k+1) listed a' w' (fun j=>by simp[List.getElem?_drop]) (by rw[hdl];exact hL.1) (hL.2 w' hw')
   rwa [hdl]at this) _ _ _ _ inv0 hkr ((Below.refl _ _).drew:Below w.heap.size w w.drew) H
 rw[htl,show k+(l.toArray.size-(k+1)+1)=l.toArray.size by simp;omega]at this
 exact this
theorem calm_new {P:Program}{id:Nat}{Q:Exit→Act→World→Prop}{a:Act}{w:World}{l:List Oper} (k:Nat) (cs:Array Value) (t:TypeId) (ok:Oper) (hk:l[k]?=some ok) (hm:P.follows .mixedOrders=true) (hB:newB .any l.toArray k=true)
  (hal:∀a w,(execOp (Act.eval a) ok).run P w = .ok (.value (.pointer (some ⟨w.heap.size,0,none⟩))) (w.alloc (.cells cs t)))
  (h:(∀b,b<w.heap.size→∀d os o,(grow (redrawn w d) os).cell? ⟨b,o,none⟩=w.cell? ⟨b,o,none⟩) →
   wpCalm P l.toArray w (fun a'=>∀B w',NewVar w B cs w'→wpList P l.toArray Q (l.drop (k+1)) (a'.put ok.dst (.pointer (some ⟨B,0,none⟩))) w') (l.take k) a):(Code.region id l.toArray true).wp P Q a w :=
 wp_region_any hm (calm_any k cs t ok hk hB hal (h fun b hb d os o=>(below_regrown w d os).cell (p:=⟨b,o,none⟩) hb))
theorem wpCalm_step {P:Program}{ops:Array Oper}{W:World}{Q:Act→Prop}{a:Act}{o:Oper}{rest:List Oper}
  (h:∀K:Act→Prop,(∀a,wpCalm P ops W Q rest a→K a)→if Region.wanted o (yielded ops a.tmps)then calmOp P o a W K else K (a.put o.dst undef)):wpCalm P ops W Q (o::rest) a :=
 h _ (fun _ h=>h)
theorem wpCalm_nil {P:Program}{ops:Array Oper}{W:World}{Q:Act→Prop}{a:Act} (h:Q a):wpCalm P ops W Q [] a:=h
theorem cal_call {P:Program}{f:FuncId}{args:Array Value}{w:World}{v:Value} (h:∀w,Calls P f args w fun e w'=>e = .returned v∧Below w.heap.size w w') :
  Calls P f args w fun e w''=>e = .returned v∧Bel w w'':=h w
theorem cal_same {P:Program}{f:FuncId}{args:Array Value}{w:World}{v:Value} (h:∀w,Calls P f args w fun e w'=>e = .returned v∧w'=w) :
  Calls P f args w fun e w''=>e = .returned v∧Bel w w'':=(h w).mono fun _ _ ⟨a,b⟩=>⟨a,by subst b;exact Below.refl _ _⟩
attribute [go_sem] calmOp cAt cUpon gw
def waiting (o:Oper) (p:Nat):Oper := { o with after:=o.after.push ⟨p,.data⟩}
section
variable {P:Program}{Q:Exit→Act→World→Prop}{l:List Oper}{s p:Nat}{os:Oper}
theorem get_set (hs:l[s]?=some os) (j:Nat):(l.set s (waiting os p))[j]?=if j=s then some (waiting os p)else l[j]?:=by
 rw[List.getElem?_set]
 by_cases h:s=j
 ·subst h
  have hl:s<l.length:=(List.getElem?_eq_some_iff.1 hs).1
  simp[hl]
 ·rw[if_neg h,if_neg (Ne.symm h)]
theorem yielded_set (hs:l[s]?=some os) (tmps:Array Value):yielded (l.set s (waiting os p)).toArray tmps=yielded l.toArray tmps:=by
 funext j
 unfold yielded
 have e:(((l.set s (waiting os p)).toArray[j]?).bind (·.dst))=((l.toArray[j]?).bind (·.dst)):=by
  simp only[List.getElem?_toArray,get_set hs]
  by_cases h:j=s
  ·subst h;rw[if_pos rfl,hs];rfl
  ·rw[if_neg h]
 rw[e]
theorem wpOp_set (hs:l[s]?=some os){i:Nat}{K:Act→World→Prop}{a:Act}{w:World} (h:wpOp P (l.set s (waiting os p)).toArray Q i K a w):wpOp P l.toArray Q i K a w:=by
 unfold wpOp at *
 simp only[List.getElem?_toArray,get_set hs,yielded_set hs]at h ⊢
 by_cases hi:i=s
 ·subst hi
  rw[if_pos rfl]at h
  rw[hs]
  exact h
 ·rw[if_neg hi]at h
  exact h
theorem ready_of_set {md:Region.Mode}{listed:Array Bool} (hs:l[s]?=some os){i:Nat} (h:i∈Region.ready md (l.set s (waiting os p)).toArray listed):i∈Region.ready md l.toArray listed:=by
 rw[mem_ready]at *
 obtain⟨h0,o,ho,hall⟩:=h
 simp only[List.getElem?_toArray,get_set hs]at ho
 by_cases hi:i=s
 ·subst hi
  rw[if_pos rfl]at ho
  obtain rfl:=Option.some.inj ho
  exact⟨h0,os,by simpa using hs,fun e he hb=>hall e (by unfold waiting;simp[he]) hb⟩
 ·rw[if_neg hi]at ho
  exact⟨h0,o,by simpa using ho,hall⟩
theorem ready_set {md:Region.Mode}{listed:Array Bool} (hs:l[s]?=some os){i:Nat} (h:i∈Region.ready md l.toArray listed) (hp:i=s→listed.getD p false=true):i∈Region.ready md (l.set s (waiting os p)).toArray listed:=by
 rw[mem_ready]at *
 obtain⟨h0,o,ho,hall⟩:=h
 refine⟨h0,?_⟩
 simp only[List.getElem?_toArray,get_set hs]
 by_cases hi:i=s
 ·subst hi
  rw[if_pos rfl]
  refine⟨_,rfl,fun e he hb => ?_⟩
  have ho':os=o:=Option.some.inj (hs.symm.trans (by simpa using ho))
  subst ho'
  unfold waiting at he
  simp only[Array.mem_push]at he
  rcases he with he|rfl
  ·exact hall e he hb
  ·exact hp rfl
 ·rw[if_neg hi]
  exact⟨o,by simpa using ho,hall⟩
def lateB (md:Region.Mode) (l:List Oper) (s p:Nat):Bool :=
 Region.noSelect l.toArray&&decide (p≠s) &&
 match l[p]?,l[s]? with
 | some op,some os =>
  op.guard.isNone&&(match op.op with | .extract .. => true|_=>false) &&
  (op.after.all fun e => !Region.binds md e||os.after.any fun e'=>Region.binds md e'&&e'.on==e.on) &&
  (List.range l.length).all fun j=>match l[j]? with
   | some oj=>j==p||op.apart l.toArray oj||(oj.after.any fun e=>Region.binds md e&&e.on==p)||op.after.any fun e=>Region.binds md e&&e.on==j
   | none=>true
 | _,_=>false
theorem extract_yields {ops:Array Oper}{op:Oper}{x:Operand}{ix:Nat}{i:Nat}{a:Act}{w:World}{K:Act→World→Prop} (hi:ops[i]?=some op) (hx:op.op = .extract x ix) (hg:op.guard=none) (h:wpOp P ops Q i K a w) :
  ∃v,Yields P ops op v a∧K (a.put op.dst v) w:=by
 have hw:Region.wanted op (yielded ops a.tmps)=true:=by unfold Region.wanted;rw[hg]
 unfold wpOp at h
 simp only[hi,hw,if_true]at h
 have e0:execOp a.eval op=(Instr.extract (a.eval x) ix >>= fun v=>pure (Next.value v)):=by unfold execOp;rw[hx]
 have key:(∃v,execOp a.eval op=pure (.value v))∨∃why,execOp a.eval op=stuck why:=by
  rw[e0]
  generalize a.eval x=tv
  have other:∀tv:Value,(∀vs,tv ≠ .tuple vs)→∃why,(Instr.extract tv ix >>= fun v=>(pure (Next.value v):Sem Next))=stuck why:=by
   intro tv hne
   cases tv with
   | tuple vs=>exact absurd rfl (hne vs)
   | _=>exact⟨_,rfl⟩
  by_cases ht:∃vs,tv = .tuple vs
  ·obtain⟨vs,rfl⟩:=ht
   cases hv:vs[ix]? with
   | some v =>
    left
    refine⟨v,?_⟩
    have e1:Instr.extract (.tuple vs) ix=pure v:=by
     show(match vs[ix]? with|some v=>pure v|none=>stuck _)=_
     rw[hv]
    rw[e1];rfl
   | none =>
    right
    have e1:∃why,Instr.extract (.tuple vs) ix=stuck why:=by
     unfold Instr.extract
     simp only[hv]
     exact⟨_,rfl⟩
    obtain⟨why,e1⟩:=e1
    exact⟨why,by rw[e1];rfl⟩
  ·exact .inr (other tv (fun vs h=>ht ⟨vs,h⟩))
 rcases key with⟨v,hv⟩|⟨why,hst⟩
 ·have hr:∀w,(execOp a.eval op).run P w = .ok (.value v) w:=fun w=>by rw[hv];rfl
  refine⟨v,.inl ⟨hw,hr⟩,?_⟩
  rcases h with h|⟨ha,_⟩
  ·unfold Oper.wp at h;rw[hr w]at h;exact h
  ·unfold Oper.asks at ha
   rw[hv]at ha
   have hm:noRoomEvent∈(#[]:Array Event):=ha.1
   exact absurd hm (by simp)
 ·rcases h with h|⟨ha,_⟩
  ·unfold Oper.wp at h;rw[hst]at h;exact absurd h (by simp[stuck,Oper.upon])
  ·unfold Oper.asks at ha
   rw[hst]at ha
   have hm:noRoomEvent∈(#[]:Array Event):=ha.1
   exact absurd hm (by simp)
theorem wpAny_late {op:Oper} (hs:l[s]?=some os) (hp:l[p]?=some op) (hB:lateB .any l s p=true) (hQ:∀c a v w,Q (.panic c) (a.put op.dst v) w→Q (.panic c) a w) (f:Nat) :
  ∀(listed:Array Bool) (a:Act) (w:World),listed.size=l.length→wpAny P .any (l.set s (waiting os p)).toArray Q f listed a w→wpAny P .any l.toArray Q f listed a w:=by
 unfold lateB at hB
 simp only[Bool.and_eq_true,decide_eq_true_eq]at hB
 obtain⟨⟨hsel,hps⟩,hB⟩:=hB
 rw[hs]at hB
 rw[hp]at hB
 simp only[Bool.and_eq_true]at hB
 obtain⟨⟨⟨hg,hx⟩,hdep⟩,hap⟩:=hB
 have hg':op.guard=none:=by simpa using hg
 obtain⟨x,ix,hx'⟩:∃x ix,op.op = .extract x ix:=by
  cases ho:op.op<;>rw[ho]at hx<;>first|exact⟨_,_,rfl⟩|(simp at hx)
 have hp':l.toArray[p]?=some op:=by simpa using hp
 have hpS:(l.set s (waiting os p)).toArray[p]?=some op:=by simp only[List.getElem?_toArray,get_set hs];rw[if_neg hps];exact hp
 have hpr:∀(listed:Array Bool),listed.size=l.length→s∈Region.ready .any l.toArray listed→listed.getD p false=false→p∈Region.ready .any l.toArray listed:=by
  intro listed hsz hr hu
  obtain⟨_,o,ho,hall⟩:=mem_ready.1 hr
  have:os=o:=Option.some.inj (hs.symm.trans (by simpa using ho))
  subst this
  have hpl:p<l.length:=(List.getElem?_eq_some_iff.1 hp).1
  refine mem_ready.2 ⟨getD_in (by omega) hu,op,hp',fun e he hb => ?_⟩
  have h1:=Array.all_eq_true'.1 hdep e he
  rw[hb]at h1
  simp only[Bool.not_true,Bool.false_or]at h1
  obtain⟨e',he',h2⟩:=Array.any_eq_true'.1 h1
  simp only[Bool.and_eq_true,beq_iff_eq]at h2
  rw[← h2.2]
  exact hall e' he' h2.1
 ·induction f with
  | zero =>
   intro listed a w hsz h
   refine⟨?_,h.2⟩
   rw[List.eq_nil_iff_forall_not_mem]
   intro i hi
   by_cases hd:i=s∧listed.getD p false=false
   ·obtain⟨rfl,hu⟩:=hd
    have:=ready_set (p:=p) hs (hpr listed hsz hi hu) (fun e=>absurd e hps)
    rw[h.1]at this
    exact absurd this List.not_mem_nil
   ·have:=ready_set (p:=p) hs hi (fun e=>by
     cases hv:listed.getD p false with
     | true=>rfl
     | false=>exact absurd ⟨e,hv⟩ hd)
    rw[h.1]at this
    exact absurd this List.not_mem_nil
  | succ f ih =>
   intro listed a w hsz h
   by_cases hpready:p∈Region.ready .any l.toArray listed
   ·have hS:=ready_set (p:=p) hs hpready (fun e=>absurd e hps)
    obtain⟨v,hy,hK⟩:=extract_yields hpS hx' hg' (h.2 p hS)
    have hy':Yields P l.toArray op v a:=by
     unfold Yields at *
     rw[yielded_set hs]at hy
     exact hy
    obtain⟨_,o,ho,hdeps⟩:=mem_ready.1 hpready
    have:op=o:=Option.some.inj (hp'.symm.trans ho)
    subst this
    refine wpAny_first hp' (Region.noSelect_spec hsel) (fun c a w hq=>hQ c a v w hq) f listed a w (fun j oj hj hjp hju hno => ?_) hpready hy' (ih _ _ _ (by simpa using hsz) hK)
    have hjl:j<l.length:=by have:=(Array.getElem?_eq_some_iff.1 hj).1;simpa using this
    have h1:=List.all_eq_true.1 hap j (List.mem_range.2 hjl)
    rw[show l[j]?=some oj from by simpa using hj]at h1
    simp only[Bool.or_eq_true,beq_iff_eq]at h1
    rcases h1 with((h1|h1)|h1)|h1
    ·exact absurd h1 hjp
    ·exact h1
    ·obtain⟨e,he,h2⟩:=Array.any_eq_true'.1 h1
     simp only[Bool.and_eq_true,beq_iff_eq]at h2
     exact absurd h2.2 (hno e he h2.1)
    ·obtain⟨e,he,h2⟩:=Array.any_eq_true'.1 h1
     simp only[Bool.and_eq_true,beq_iff_eq]at h2
     have h3:=hdeps e he h2.1
     rw[h2.2,getD_both hju]at h3
     exact absurd h3 (by decide)
   ·have hgo:∀i,i∈Region.ready .any l.toArray listed→i∈Region.ready .any (l.set s (waiting os p)).toArray listed:=fun i hi=>ready_set (p:=p) hs hi (fun e=>by
     cases hv:listed.getD p false with
     | true=>rfl
     | false=>subst e;exact absurd (hpr listed hsz hi hv) hpready)
    refine⟨fun h0=>h.1 ?_,fun i hi=>wpOp_set hs (wpOp_mono (fun a' w' h'=>ih _ a' w' (by simpa using hsz) h') (h.2 i (hgo i hi)))⟩
    rw[List.eq_nil_iff_forall_not_mem]
    intro i hi
    have:=ready_of_set hs hi
    rw[h0]at this
    exact absurd this List.not_mem_nil
theorem wpCalm_set (hs:l[s]?=some os){W:World}{K K':Act→Prop} (hK:∀a,K a→K' a) (m:List Oper):∀a,wpCalm P l.toArray W K m a→wpCalm P (l.set s (waiting os p)).toArray W K' m a:=by
 induction m with
 | nil=>intro a h;exact hK a h
 | cons o m ih =>
  intro a h
  unfold wpCalm at h ⊢
  rw[yielded_set hs]
  split
  ·rename_i hw
   rw[if_pos hw]at h
   obtain⟨v,h1,h2⟩:=h
   exact⟨v,h1,ih _ h2⟩
  ·rename_i hw
   rw[if_neg hw]at h
   exact ih _ h
theorem wpList_set (hs:l[s]?=some os) (m:List Oper):∀a w,wpList P l.toArray Q m a w→wpList P (l.set s (waiting os p)).toArray Q m a w:=by
 induction m with
 | nil=>intro a w h;exact h
 | cons o m ih =>
  intro a w h
  unfold wpList at h ⊢
  rw[yielded_set hs]
  split
  ·rename_i hw
   rw[if_pos hw]at h
   rcases h with h|h
   ·exact .inl (Oper.wp_mono (fun a' w' h'=>ih a' w' h') h)
   ·exact .inr h
  ·rename_i hw
   rw[if_neg hw]at h
   exact ih _ _ h
theorem wpList_head (hs:l[s]?=some os){m:List Oper}{a:Act}{w:World} (h:wpList P l.toArray Q (os::m) a w):wpList P (l.set s (waiting os p)).toArray Q (waiting os p::m) a w:=by
 have:=wpList_set (p:=p) hs _ a w h
 exact this
end
theorem calm_late {P:Program}{id:Nat}{Q:Exit→Act→World→Prop}{a:Act}{w:World}{l:List Oper} (k p:Nat) (cs:Array Value) (t:TypeId) (ok os op:Oper) (hk:l[k]?=some ok) (hs:l[k+1]?=some os) (hp:l[p]?=some op) (hm:P.follows .mixedOrders=true)
  (hB:newB .any (l.set (k+1) (waiting os p)).toArray k=true) (hL:lateB .any l (k+1) p=true) (hQ:∀c a v w,Q (.panic c) (a.put op.dst v) w→Q (.panic c) a w)
  (hal:∀a w,(execOp (Act.eval a) ok).run P w = .ok (.value (.pointer (some ⟨w.heap.size,0,none⟩))) (w.alloc (.cells cs t)))
  (h:(∀b,b<w.heap.size→∀d os o,(grow (redrawn w d) os).cell? ⟨b,o,none⟩=w.cell? ⟨b,o,none⟩) →
   wpCalm P l.toArray w (fun a'=>∀B w',NewVar w B cs w'→wpList P l.toArray Q (l.drop (k+1)) (a'.put ok.dst (.pointer (some ⟨B,0,none⟩))) w') (l.take k) a):(Code.region id l.toArray true).wp P Q a w:=by
 have h:=h fun b hb d os o=>(below_regrown w d os).cell (p:=⟨b,o,none⟩) hb
 refine wp_region_any hm ?_
 have hsz:(l.set (k+1) (waiting os p)).toArray.size=l.toArray.size:=by simp
 have hk':(l.set (k+1) (waiting os p))[k]?=some ok:=by rw[get_set hs,if_neg (by omega)];exact hk
 have:=calm_any (Q:=Q) (a:=a) (w:=w) (l:=l.set (k+1) (waiting os p)) k cs t ok hk' hB hal (by
  rw[List.take_set_of_le (by omega)]
  refine wpCalm_set hs (fun a' hh B w' hN => ?_) _ _ h
  have hd:l.drop (k+1)=os::l.drop (k+2):=by
   have hl:k+1<l.length:=(List.getElem?_eq_some_iff.1 hs).1
   have he:l[k+1]=os:=(List.getElem?_eq_some_iff.1 hs).2
   rw[List.drop_eq_getElem_cons hl,he]
  have hd':(l.set (k+1) (waiting os p)).drop (k+1)=waiting os p::l.drop (k+2):=by
   have hl:k+1<(l.set (k+1) (waiting os p)).length:=by simpa using(List.getElem?_eq_some_iff.1 hs).1
   rw[List.drop_eq_getElem_cons hl]
   congr 1
   ·simp
   ·rw[List.drop_set_of_lt (by omega)]
  rw[hd']
  have h2:=hh B w' hN
  rw[hd]at h2
  exact wpList_head hs h2)
 rw[hsz]at this
 exact wpAny_late hs hp hL hQ _ _ _ _ (by simp) this
end Go.Proofs.YticobgianbecpaaGreatDoor
namespace Go.Proofs.YticobgianbecpaaGreatDoor
open Go Go.Sort Go.RowKit
section
variable {P:Program}{C:World→Prop}
theorem wpAny_calm {Q:Exit→Act→World→Prop}{a:Act}{w:World}{l:List Oper} (n:Nat) (hB:Region.lexTailB .any l.toArray n=true)
  (hC:C { w with drawn:=w.drawn+1}) (h:wpQuiet P l.toArray C (fun a'=>∀w',C w'→wpList P l.toArray Q (l.drop n) a' w') (l.take n) a) :
  wpAny P .any l.toArray Q l.toArray.size (Array.replicate l.toArray.size false) a { w with drawn:=w.drawn+1} := by
 simp only[Region.lexTailB,Bool.and_eq_true,decide_eq_true_eq]at hB
 obtain⟨⟨⟨⟨hsel,hn⟩,hs⟩,hc⟩,hlex⟩:=hB
 have hn':n<l.length:=by simpa using hn
 have htl:(l.take n).length=n:=by simp;omega
 have hdl:(l.drop n).length=l.toArray.size-n:=by simp
 have inv0:HeadInv .any l.toArray n (Array.replicate l.toArray.size false) :=
  ⟨by simp,fun j oj _ hl=>absurd hl (by rw[getD_replicate_false];decide),fun t _ ht=>getD_in (by simpa using ht) (getD_replicate_false _ _)⟩
 have H:=headQ_lex (md := .any) (g:=l.toArray.size-n) hsel hs hc hn (l.take n) 0 _ a (fun j hj=>by
  have hj':j<n:=by rw[htl]at hj;exact hj
  simp[hj']) (by simpa using htl) inv0 (by rw[htl];exact hlex) h
 have:=wpAny_of_headQ (Q:=Q) (g:=l.toArray.size-n) (fun listed a' w' hw hL=>by
  have:=wpAny_of_seq (md := .any) (Q':=Q) (l.drop n) n listed a' w' (fun j=>by simp[List.getElem?_drop]) (by rw[hdl];exact hL.1) (hL.2 w' hw)
  rwa [hdl]at this) _ _ _ _ hC H
 rw[htl,show n+(l.toArray.size-n)=l.toArray.size by omega]at this
 exact this
theorem wpQuiet_set {l:List Oper}{s p:Nat}{os:Oper} (hs:l[s]?=some os){K K':Act→Prop} (hK:∀a,K a→K' a) (m:List Oper):∀a,wpQuiet P l.toArray C K m a→wpQuiet P (l.set s (waiting os p)).toArray C K' m a:=by
 induction m with
 | nil=>intro a h;exact hK a h
 | cons o m ih =>
  intro a h
  unfold wpQuiet at h ⊢
  rw[yielded_set hs]
  split
  ·rename_i hw
   rw[if_pos hw]at h
   obtain⟨v,h1,h2⟩:=h
   exact⟨v,h1,ih _ h2⟩
  ·rename_i hw
   rw[if_neg hw]at h
   exact ih _ h
end
end Go.Proofs.YticobgianbecpaaGreatDoor
namespace Go.Proofs.YticobgianbecpaaGreatDoor
open Go Go.Sort Go.RowKit
section
variable {P:Program}{ops:Array Oper}{md:Region.Mode}{W:World}
def headC (P:Program) (md:Region.Mode) (ops:Array Oper) (W:World) (k:Nat) (L:Array Bool→Act→Prop):Nat→Array Bool→Act→Prop
 | 0,listed,a=>L listed a
 | f+1,listed,a=>Region.ready md ops listed ≠ []∧∀i∈Region.ready md ops listed,i<k∧cOp P ops W i (headC P md ops W k L f (listed.setIfInBounds i true)) a
def Laid (k n:Nat) (listed:Array Bool):Prop:=∀j,k≤j→j<n→listed.getD j true=true
theorem Laid.set {k n i:Nat}{listed:Array Bool} (h:Laid k n listed) (hi:i<k):Laid k n (listed.setIfInBounds i true):=fun j h1 h2=>by
 rw[getD_set_ne true (by omega)];exact h j h1 h2
theorem headC_first {k n i:Nat}{oi:Oper}{v:Value}{L:Array Bool→Act→Prop} (hi:ops[i]?=some oi) (hsel:∀(j:Nat) (o:Oper) cs b,ops[j]?=some o→o.op ≠ .select cs b)
  (hs:Region.sinkB md ops n=true) (hc:Region.chainB md ops n=true) (hn:n<ops.size) (hkn:k≤n) (hin:i<k)
  (hdone:∀listed a,L listed a→∀j∈Region.ready md ops listed,n≤j) (f:Nat):∀(listed:Array Bool) (a:Act),HeadInv md ops n listed→Laid k n listed →
   (∀j oj,ops[j]?=some oj→j≠i→listed.getD j true=false→(∀e∈oj.after,Region.binds md e=true→e.on≠i)→oi.apart ops oj=true) →
   i∈Region.ready md ops listed→cYields P ops W oi v a →
   headC P md ops W k L f (listed.setIfInBounds i true) (a.put oi.dst v)→headC P md ops W k L (f+1) listed a:=by
 induction f with
 | zero =>
  intro listed a inv lay _ hr hy H
  refine⟨fun h=>by rw[h]at hr;exact absurd hr List.not_mem_nil,fun j hj => ?_⟩
  have hjn:j<n:=Nat.lt_of_not_le fun h=>tail_waits hs hc hn inv _ i rfl (by omega) (mem_ready.1 hr).1 j h hj
  have hjk:j<k:=Nat.lt_of_not_le fun h=>by have:=lay j h hjn;rw[(mem_ready.1 hj).1]at this;cases this
  refine⟨hjk,?_⟩
  by_cases hji:j=i
  ·subst hji;exact hy.cOp hi H
  ·exact absurd (hdone _ _ H j (ready_mono hj hji)) (by omega)
 | succ f ih =>
  intro listed a inv lay hfree hr hy H
  have hun:=(mem_ready.1 hr).1
  refine⟨fun h=>by rw[h]at hr;exact absurd hr List.not_mem_nil,fun j hj => ?_⟩
  have hjn:j<n:=Nat.lt_of_not_le fun h=>tail_waits hs hc hn inv _ i rfl (by omega) hun j h hj
  have hjk:j<k:=Nat.lt_of_not_le fun h=>by have:=lay j h hjn;rw[(mem_ready.1 hj).1]at this;cases this
  refine⟨hjk,?_⟩
  by_cases hji:j=i
  ·subst hji;exact hy.cOp hi H
  obtain⟨hjun,oj,hoj,hall⟩:=mem_ready.1 hj
  have hnot:∀e∈oj.after,Region.binds md e=true→e.on≠i:=fun e he hb heq=>by
   have:=hall e he hb
   rw[heq,getD_both hun]at this
   exact absurd this (by decide)
  obtain⟨u,hyj,hK⟩:=cYields_of hoj (H.2 j (ready_mono hj hji)).2
  obtain⟨a1,a2,a3⟩:=Oper.apart_spec (hfree j oj hoj hji hjun hnot)
  have hyj':cYields P ops W oj u a:=hyj.unput (fun cs b=>hsel j oj cs b hoj) v a1
  refine hyj'.cOp hoj (ih (listed.setIfInBounds j true) _ (inv.set hj hjn) (lay.set hjk) (fun k' ok hk hki hu hno => ?_) (ready_mono hr (Ne.symm hji)) (hy.put (fun cs b=>hsel i oi cs b hi) u a3) ?_)
  ·refine hfree k' ok hk hki ?_ hno
   by_cases hjk':j=k'
   ·subst hjk';exact hjun
   ·rw[getD_set_ne true hjk']at hu;exact hu
  ·rw[Array.setIfInBounds_comm _ _ hji,← Act.put_comm a v u a2]
   exact hK
def lexHeadN (md:Region.Mode) (ops:Array Oper) (g n:Nat):Nat→Nat→Array Bool→Bool
 | 0,_,listed=>Region.seqB md ops g n listed
 | f+1,m,listed=>(Region.ready md ops listed).contains m&&Region.free md ops listed m&&lexHeadN md ops g n f (m+1) (listed.setIfInBounds m true)
theorem headC_lex {k n g:Nat}{Lq:Act→Prop} (hsel:Region.noSelect ops=true) (hs:Region.sinkB md ops n=true) (hc:Region.chainB md ops n=true) (hn:n<ops.size) (hkn:k≤n) (l:List Oper) :
  ∀(m:Nat) (listed:Array Bool) (a:Act),(∀j,j<l.length→l[j]?=ops[m+j]?)→m+l.length=k→HeadInv md ops n listed→Laid k n listed →
  lexHeadN md ops g n l.length m listed=true→wpCalm P ops W Lq l a →
  headC P md ops W k (fun listed' a'=>Region.seqB md ops g n listed'=true∧Lq a') l.length listed a:=by
 induction l with
 | nil =>
  intro m listed a _ hk _ _ hB h
  exact⟨by simpa[lexHeadN]using hB,h⟩
 | cons o l ih =>
  intro m listed a hl hk inv lay hB h
  have h0:ops[m]?=some o:=by simpa using(hl 0 (by simp)).symm
  simp only[List.length_cons,lexHeadN,Bool.and_eq_true]at hB
  obtain⟨⟨hr,hf⟩,hB'⟩:=hB
  have hmk:m<k:=by simp only[List.length_cons]at hk;omega
  have hr':m∈Region.ready md ops listed:=by simpa using hr
  have hq:cOp P ops W m (wpCalm P ops W Lq l) a:=by unfold cOp;simp only[h0];exact h
  obtain⟨v,hy,hK⟩:=cYields_of h0 hq
  exact headC_first h0 (Region.noSelect_spec hsel) hs hc hn hkn hmk (fun listed' a' hL=>seqB_ready hL.1) l.length listed a inv lay (Region.free_spec h0 hf) hr' hy
   (ih (m+1) _ _ (fun j hj=>by have:=hl (j+1) (by simp;omega);simpa[Nat.add_assoc,Nat.add_comm 1 j]using this) (by simp only[List.length_cons]at hk;omega) (inv.set hr' (by omega)) (lay.set hmk) hB' hK)
def Got:=Nat→Option Nat
def Got.set (β:Got) (i B:Nat):Got:=fun j=>if j=i then some B else β j
def putF (ops:Array Oper) (β:Got):List Nat→Act→Act
 | [],a=>a
 | j::js,a=>putF ops β js (match β j with|none=>a|some B=>a.put ((ops[j]?).bind (·.dst)) (.pointer (some ⟨B,0,none⟩)))
def dstB (ops:Array Oper) (k n:Nat):Bool:=(List.range n).all fun i=>(List.range n).all fun j=>decide (i<k)||decide (j<k)||i==j || !(((ops[i]?).bind (·.dst))==((ops[j]?).bind (·.dst)))
theorem put_put {a:Act}{x y:Option Tmp}{v u:Value} (h:x≠y):(a.put x v).put y u=(a.put y u).put x v :=
 Act.put_comm a v u (fun d hd e=>h (by rw[hd,e]))
theorem putF_put {β:Got}{x:Option Tmp}{v:Value} : ∀(js:List Nat) (a:Act),(∀j∈js,β j≠none→(ops[j]?).bind (·.dst)≠x)→putF ops β js (a.put x v)=(putF ops β js a).put x v
 | [],_,_=>rfl
 | j::js,a,h=>by
  unfold putF
  cases hb:β j with
  | none=>exact putF_put js a (fun j' hj'=>h j' (by simp[hj']))
  | some B =>
   show putF ops β js ((a.put x v).put _ _)=_
   rw[← put_put (h j (by simp) (by rw[hb];simp))]
   exact putF_put js _ (fun j' hj'=>h j' (by simp[hj']))
theorem putF_same {β β':Got} : ∀(js:List Nat) (a:Act),(∀j∈js,β j=β' j)→putF ops β js a=putF ops β' js a
 | [],_,_=>rfl
 | j::js,a,h=>by
  unfold putF
  rw[h j (by simp)]
  exact putF_same js _ (fun j' hj'=>h j' (by simp[hj']))
theorem putF_set {β:Got}{i B:Nat} : ∀(js:List Nat) (a:Act),i∈js→js.Nodup→β i=none→(∀j∈js,j≠i→(ops[j]?).bind (·.dst)≠(ops[i]?).bind (·.dst)) →
  putF ops (β.set i B) js a=(putF ops β js a).put ((ops[i]?).bind (·.dst)) (.pointer (some ⟨B,0,none⟩))
 | [],_,h,_,_,_=>absurd h (by simp)
 | j::js,a,h,hd,hn,hx=>by
  obtain⟨hj,hd'⟩:=List.nodup_cons.1 hd
  by_cases hji:j=i
  ·subst hji
   unfold putF
   rw[hn,show(β.set j B) j=some B from by unfold Got.set;rw[if_pos rfl]]
   simp only
   rw[putF_same (β:=β.set j B) (β':=β) js _ (fun j' hj'=>by unfold Got.set;rw[if_neg];rintro rfl;exact hj hj')]
   exact putF_put js a (fun j' hj' _=>hx j' (by simp[hj']) (by rintro rfl;exact hj hj'))
  ·unfold putF
   rw[show(β.set i B) j=β j from by unfold Got.set;rw[if_neg hji]]
   exact putF_set js _ (by simpa[Ne.symm hji]using h) hd' hn (fun j' hj'=>hx j' (by simp[hj']))
structure Cls (W:World) (css:Nat→Array Value) (β:Got) (w:World):Prop where
 below:Below W.heap.size W w
 new:∀j B,β j=some B→NewVar W B (css j) w
 apart:∀i j B B',β i=some B→β j=some B'→i≠j→B≠B'
theorem Cls.later {css:Nat→Array Value}{β:Got}{w w':World} (h:Cls W css β w) (hb:Below w.heap.size w w'):Cls W css β w' :=
 ⟨bl_call' h.below hb,fun j B hj=>(h.new j B hj).later hb,h.apart⟩
theorem Cls.alloc {css:Nat→Array Value}{β:Got}{w:World}{i:Nat}{t:TypeId} (h:Cls W css β w):Cls W css (β.set i w.heap.size) (w.alloc (.cells (css i) t)):=by
 have hb:Below w.heap.size w (w.alloc (.cells (css i) t)):=(Below.refl _ _).alloc (Nat.le_refl _) _
 refine⟨bl_call' h.below hb,fun j B hj => ?_,fun i' j B B' hi hj hne => ?_⟩
 ·unfold Got.set at hj
  by_cases e:j=i
  ·subst e
   rw[if_pos rfl]at hj
   cases hj
   exact newVar_alloc h.below
  ·rw[if_neg e]at hj
   exact(h.new j B hj).later hb
 ·unfold Got.set at hi hj
  by_cases e1:i'=i
  ·rw[if_pos e1]at hi
   cases hi
   rw[if_neg (by omega)]at hj
   have:=(h.new j B' hj).hi
   omega
  ·rw[if_neg e1]at hi
   have:=(h.new i' B hi).hi
   by_cases e2:j=i
   ·rw[if_pos e2]at hj
    cases hj
    omega
   ·rw[if_neg e2]at hj
    exact h.apart i' j B B' hi hj hne
theorem cYields_putF {o:Oper}{v:Value}{β:Got} (hs:∀cs b,o.op ≠ .select cs b):∀(js:List Nat) (a:Act),(∀j∈js,∀d,(ops[j]?).bind (·.dst)=some d→d∉o.looksAt ops)→cYields P ops W o v a→cYields P ops W o v (putF ops β js a)
 | [],_,_,h=>h
 | j::js,a,hd,h=>by
  unfold putF
  cases hb:β j with
  | none=>exact cYields_putF hs js a (fun j' hj'=>hd j' (by simp[hj'])) h
  | some B=>exact cYields_putF hs js _ (fun j' hj'=>hd j' (by simp[hj'])) (h.put hs _ (hd j (by simp)))
theorem wpAny_many {k n g:Nat}{css:Nat→Array Value}{L:Array Bool→Act→Prop}{Q:Exit→Act→World→Prop}
  (hkn:k≤n) (hn:n<ops.size)
  (hal:∀j,k≤j→j<n→∃oj,ops[j]?=some oj∧oj.guard=none∧(∀e,e∉oj.after)∧oj.dst≠none∧∃t,∀a w,(execOp (Act.eval a) oj).run P w = .ok (.value (.pointer (some ⟨w.heap.size,0,none⟩))) (w.alloc (.cells (css j) t)))
  (hsel:∀(j:Nat) (o:Oper) cs b,ops[j]?=some o→o.op ≠ .select cs b)
  (hs:Region.sinkB md ops n=true) (hc:Region.chainB md ops n=true)
  (hap:∀i oi j oj,i<k→k≤j→j<n→ops[i]?=some oi→ops[j]?=some oj→oj.apart ops oi=true∧∀e∈oi.after,Region.binds md e=true→e.on≠j)
  (hdst:∀i j,k≤i→i<n→k≤j→j<n→i≠j→(ops[i]?).bind (·.dst)≠(ops[j]?).bind (·.dst))
  (hdone:∀listed a,L listed a→∀j∈Region.ready md ops listed,n≤j)
  (hfin:∀(β:Got) listed a w,(∀j,k≤j→j<n→∃B,β j=some B)→Cls W css β w→L listed a→wpAny P md ops Q g listed (putF ops β (List.range' k (n-k)) a) w) :
  ∀(N f:Nat) (pend:List Nat) (listed listedA:Array Bool) (a:Act) (β:Got) (w:World),f+pend.length=N→pend.Nodup→(∀j,j∈pend↔(k≤j∧j<n∧β j=none))→(∀j,β j≠none→k≤j∧j<n) →
   HeadInv md ops n listed→listedA.size=ops.size→Laid k n listedA→(∀j,j∈pend→listed.getD j true=false)→(∀j b,j∉pend→listed.getD j b=listedA.getD j b) →
   headC P md ops W k L f listedA a→Cls W css β w→wpAny P md ops Q (N+g) listed (putF ops β (List.range' k (n-k)) a) w:=by
 have hr:∀j,j∈List.range' k (n-k)↔(k≤j∧j<n):=fun j=>by rw[List.mem_range'_1];omega
 intro N
 induction N with
 | zero =>
  intro f pend listed listedA a β w hN _ hp hβ inv hszA lay hpl heq h hw
  obtain rfl:f=0:=by omega
  obtain rfl:pend = []:=List.length_eq_zero_iff.1 (by omega)
  have e:listed=listedA:=by
   refine Array.ext (by rw[inv.size,hszA]) fun i h1 h2 => ?_
   have:=heq i true (by simp)
   simpa[h1,h2]using this
  subst e
  rw[Nat.zero_add]
  refine hfin β listed a w (fun j h1 h2 => ?_) hw h
  cases hb:β j with
  | none=>exact absurd ((hp j).2 ⟨h1,h2,hb⟩) (by simp)
  | some B=>exact⟨B,rfl⟩
 | succ N ih =>
  intro f pend listed listedA a β w hN hnd hp hβ inv hszA lay hpl heq h hw
  have hge:∀j,listed.getD j false=true→listedA.getD j false=true:=fun j hj=>by
   by_cases hjp:j∈pend
   ·have:=hpl j hjp
    rw[getD_both this]at hj;cases hj
   ·rw[← heq j false hjp];exact hj
  have hreadyA:∀i,i<k→i∈Region.ready md ops listed→i∈Region.ready md ops listedA:=fun i hi hir=>by
   obtain⟨h0,o,ho,hall⟩:=mem_ready.1 hir
   exact mem_ready.2 ⟨by rw[← heq i true (fun h'=>by have:=((hp i).1 h').1;omega)];exact h0,o,ho,fun e he hb=>hge _ (hall e he hb)⟩
  have hpready:∀j,j∈pend→j∈Region.ready md ops listed:=fun j hj=>by
   obtain⟨h1,h2,_⟩:=(hp j).1 hj
   obtain⟨oj,ho,_,ha,_⟩:=hal j h1 h2
   exact mem_ready.2 ⟨hpl j hj,oj,ho,fun e he=>absurd he (ha e)⟩
  have hsome:∃i∈Region.ready md ops listed,i<n:=by
   by_cases hpe:pend = []
   ·subst hpe
    have hfp:0<f:=by simp at hN;omega
    obtain⟨f',rfl⟩:∃f',f=f'+1:=⟨f-1,by omega⟩
    obtain⟨hne,hall⟩:=h
    obtain⟨i,hi⟩:=List.exists_mem_of_ne_nil _ hne
    have hik:=(hall i hi).1
    obtain⟨h0,o,ho,hal'⟩:=mem_ready.1 hi
    exact⟨i,mem_ready.2 ⟨by rw[heq i true (by simp)];exact h0,o,ho,fun e he hb=>by rw[heq _ false (by simp)];exact hal' e he hb⟩,by omega⟩
   ·obtain⟨j,hj⟩:=List.exists_mem_of_ne_nil _ hpe
    exact⟨j,hpready j hj,((hp j).1 hj).2.1⟩
  obtain⟨i0,hi0,hi0n⟩:=hsome
  rw[show N+1+g=(N+g)+1 from by omega]
  refine⟨fun h0=>absurd hi0 (by rw[h0];exact List.not_mem_nil),fun i hi => ?_⟩
  have hin:i<n:=Nat.lt_of_not_le fun hh=>tail_waits hs hc hn inv _ i0 rfl hi0n (mem_ready.1 hi0).1 i hh hi
  have hun:=(mem_ready.1 hi).1
  by_cases hik:i<k
  ·
   have hiA:=hreadyA i hik hi
   have hip:i∉pend:=fun h'=>by have:=((hp i).1 h').1;omega
   cases f with
   | zero=>exact absurd (hdone _ _ h i hiA) (by omega)
   | succ f =>
    obtain⟨_,o,ho,_⟩:=mem_ready.1 hi
    obtain⟨v,hy,hK⟩:=cYields_of ho (h.2 i hiA).2
    have hapi:∀j,k≤j→j<n→∃oj,ops[j]?=some oj∧oj.apart ops o=true:=fun j h1 h2=>by
     obtain⟨oj,hoj,_⟩:=hal j h1 h2
     exact⟨oj,hoj,(hap i o j oj hik h1 h2 ho hoj).1⟩
    have hyp:cYields P ops W o v (putF ops β (List.range' k (n-k)) a):=cYields_putF (fun cs b=>hsel i o cs b ho) _ _ (fun j hj d hd=>by
     obtain⟨oj,hoj,hapj⟩:=hapi j ((hr j).1 hj).1 ((hr j).1 hj).2
     have h3:=(Oper.apart_spec hapj).1
     rw[hoj]at hd
     exact h3 d hd) hy
    have hput:(putF ops β (List.range' k (n-k)) a).put o.dst v=putF ops β (List.range' k (n-k)) (a.put o.dst v):=by
     refine(putF_put _ _ fun j hj _ => ?_).symm
     obtain⟨oj,hoj,hapj⟩:=hapi j ((hr j).1 hj).1 ((hr j).1 hj).2
     have h3:=(Oper.apart_spec hapj).2.1
     rw[hoj]
     intro he
     have he':oj.dst=o.dst:=he
     cases hd:oj.dst with
     | none =>
      obtain⟨oj',hoj',_,_,hdn,_⟩:=hal j ((hr j).1 hj).1 ((hr j).1 hj).2
      rw[hoj]at hoj'
      cases hoj'
      exact hdn hd
     | some d=>exact h3 d hd (he'.symm.trans hd)
    refine wpOp_of_qOp (C:=Cls W css β) hw (fun a' w' hw' h' => ?_) (cOp_quiet (fun w h=>h.below) (fun w w' h hb=>h.later hb) (hyp.cOp ho (K:=fun a'=>a'=putF ops β (List.range' k (n-k)) (a.put o.dst v)) hput))
    rw[h']
    exact ih f pend _ (listedA.setIfInBounds i true) (a.put o.dst v) β w' (by omega) hnd hp hβ (inv.set hi hin) (by simpa using hszA) (lay.set hik)
     (fun j hj=>by rw[getD_set_ne true (by rintro rfl;exact hip hj)];exact hpl j hj)
     (fun j b hj=>by
      by_cases hij:i=j
      ·subst hij
       have h1:i<listed.size:=by rw[inv.size];exact(Array.getElem?_eq_some_iff.1 ho).1
       have h2:i<listedA.size:=by rw[hszA];exact(Array.getElem?_eq_some_iff.1 ho).1
       simp[h1,h2]
      ·rw[getD_set_ne b hij,getD_set_ne b hij];exact heq j b hj)
     hK hw'
  ·
   have hip:i∈pend:=by
    by_cases h':i∈pend
    ·exact h'
    ·have:=lay i (by omega) hin
     rw[← heq i true h',hun]at this;cases this
   obtain⟨oi,hoi,hg,_,_,t,hrun⟩:=hal i (by omega) hin
   obtain⟨p1,p2,p3⟩:=(hp i).1 hip
   unfold wpOp
   simp only[hoi]
   rw[if_pos (by unfold Region.wanted;rw[hg])]
   refine .inl ?_
   unfold Oper.wp
   rw[hrun]
   have hset:(putF ops β (List.range' k (n-k)) a).put oi.dst (.pointer (some ⟨w.heap.size,0,none⟩))=putF ops (β.set i w.heap.size) (List.range' k (n-k)) a:=by
    have:=putF_set (ops:=ops) (β:=β) (i:=i) (B:=w.heap.size) (List.range' k (n-k)) a ((hr i).2 ⟨p1,p2⟩) List.nodup_range' p3 (fun j hj hji=>hdst j i ((hr j).1 hj).1 ((hr j).1 hj).2 p1 p2 hji)
    rw[this,hoi];rfl
   show wpAny P md ops Q (N+g) (listed.setIfInBounds i true) ((putF ops β (List.range' k (n-k)) a).put oi.dst _) _
   rw[hset]
   have hlen:0<pend.length:=List.length_pos_of_mem hip
   have hmem:∀j,j∈pend.erase i↔(j≠i∧j∈pend):=fun j=>hnd.mem_erase_iff
   refine ih f (pend.erase i) _ listedA a (β.set i w.heap.size) _ (by rw[List.length_erase_of_mem hip];omega) (hnd.erase i) (fun j => ?_) (fun j hj => ?_) (inv.set hi hin) hszA lay (fun j hj => ?_) (fun j b hj => ?_) h hw.alloc
   ·rw[hmem]
    unfold Got.set
    by_cases e:j=i
    ·subst e;simp
    ·rw[if_neg e];simp[e];exact hp j
   ·unfold Got.set at hj
    by_cases e:j=i
    ·subst e;exact⟨p1,p2⟩
    ·rw[if_neg e]at hj;exact hβ j hj
   ·have:=(hmem j).1 hj
    rw[getD_set_ne true (Ne.symm this.1)];exact hpl j this.2
   ·by_cases e:j=i
    ·subst e
     have h1:j<listed.size:=by rw[inv.size];omega
     have h2:j<listedA.size:=by rw[hszA];omega
     have h3:=lay j p1 p2
     have h4:listedA.getD j b=true:=by simp[h2]at h3 ⊢;exact h3
     rw[h4]
     simp[h1]
    ·rw[getD_set_ne b (Ne.symm e)]
     exact heq j b (fun h'=>hj ((hmem j).2 ⟨e,h'⟩))
end
theorem getD_out {A:Array Bool}{j:Nat} (b:Bool) (h:A.size≤j):A.getD j b=b:=by unfold Array.getD;rw[dif_neg (by omega)]
theorem calm_drew {P:Program}{f:FuncId}{args:Array Value}{w:World}{d:Nat}{os:Array Obj}{v:Value} (h:∀w,Calls P f args w fun e w'=>e = .returned v∧∃k,w'=w.drewN k) :
  Calls P f args (grow (redrawn w d) os) fun e w''=>e = .returned v∧∃p:Regrown,w''=grow (redrawn w p.d) p.os :=
 calm_call (fun w=>(h w).mono fun _ _ ⟨a,k,b⟩=>⟨a,by
  subst b
  have:∀k,Below w.heap.size w (w.drewN k):=fun k=>by
   induction k with
   | zero=>exact Below.refl _ _
   | succ n ih=>exact ih.drew
  exact this k⟩)
def marks (s k n:Nat):Array Bool:=(Array.range s).map fun j=>decide (k≤j)&&decide (j<n)
theorem marks_get {s k n j:Nat} (h:j<s) (b:Bool):(marks s k n).getD j b=(decide (k≤j)&&decide (j<n)):=by
 unfold marks;simp[h]
def manyB (md:Region.Mode) (ops:Array Oper) (k n:Nat):Bool :=
 Region.noSelect ops&&decide (n<ops.size)&&decide (k≤n)&&Region.sinkB md ops n&&Region.chainB md ops n&&lexHeadN md ops (ops.size-n) n k 0 (marks ops.size k n)&&dstB ops k n &&
 (List.range n).all fun j=>decide (j<k)||match ops[j]? with
  | some oj=>oj.after.isEmpty&&oj.guard.isNone&&oj.dst.isSome&&(List.range k).all fun i=>match ops[i]? with|some oi=>oj.apart ops oi&&oi.after.all fun e => !(Region.binds md e&&e.on==j)|none=>true
  | none=>false
theorem many_any {P:Program}{Q:Exit→Act→World→Prop}{a:Act}{w:World}{l:List Oper} (k n:Nat) (css:Nat→Array Value) (hB:manyB .any l.toArray k n=true)
  (hal:∀j oj,k≤j→j<n→l[j]?=some oj→∃t,∀a w,(execOp (Act.eval a) oj).run P w = .ok (.value (.pointer (some ⟨w.heap.size,0,none⟩))) (w.alloc (.cells (css j) t)))
  (h:wpCalm P l.toArray w (fun a'=>∀(β:Got) w',(∀j,k≤j→j<n→∃B,β j=some B)→Cls w css β w'→wpList P l.toArray Q (l.drop n) (putF l.toArray β (List.range' k (n-k)) a') w') (l.take k) a) :
  wpAny P .any l.toArray Q l.toArray.size (Array.replicate l.toArray.size false) a { w with drawn:=w.drawn+1} := by
 unfold manyB at hB
 simp only[Bool.and_eq_true,decide_eq_true_eq]at hB
 obtain⟨⟨⟨⟨⟨⟨⟨hsel,hn⟩,hkn⟩,hs⟩,hc⟩,hlex⟩,hdst⟩,hall⟩:=hB
 have hinfo:∀j,k≤j→j<n→∃oj,l.toArray[j]?=some oj∧oj.after.isEmpty=true∧oj.guard.isNone=true∧oj.dst.isSome=true∧∀i oi,i<k→l.toArray[i]?=some oi→oj.apart l.toArray oi=true∧∀e∈oi.after,Region.binds .any e=true→e.on≠j:=fun j h1 h2=>by
  have h3:=List.all_eq_true.1 hall j (List.mem_range.2 h2)
  have h4:¬j<k:=by omega
  simp only[h4,decide_false,Bool.false_or]at h3
  cases ho:l.toArray[j]? with
  | none=>simp only[ho]at h3;cases h3
  | some oj =>
   simp only[ho,Bool.and_eq_true]at h3
   obtain⟨⟨⟨x1,x2⟩,x3⟩,x4⟩:=h3
   refine⟨oj,rfl,x1,x2,x3,fun i oi hi hoi => ?_⟩
   have h5:=List.all_eq_true.1 x4 i (List.mem_range.2 hi)
   simp only[hoi,Bool.and_eq_true]at h5
   refine⟨h5.1,fun e he hb hek => ?_⟩
   have h6:=Array.all_eq_true'.1 h5.2 e he
   rw[hb,hek]at h6
   simp at h6
 have hn':n<l.length:=by simpa using hn
 have htl:(l.take k).length=k:=by simp;omega
 have hdl:(l.drop n).length=l.toArray.size-n:=by simp
 have hnil:∀oj:Oper,oj.after.isEmpty=true→∀e,e∉oj.after:=fun oj h e he=>by rw[Array.isEmpty_iff]at h;rw[h]at he;simp at he
 have inv0:HeadInv .any l.toArray n (Array.replicate l.toArray.size false) :=
  ⟨by simp,fun j oj _ hl=>absurd hl (by rw[getD_replicate_false];decide),fun t _ ht=>getD_in (by simpa using ht) (getD_replicate_false _ _)⟩
 have szM:(marks l.toArray.size k n).size=l.toArray.size:=by simp[marks]
 have invM:HeadInv .any l.toArray n (marks l.toArray.size k n):=by
  refine⟨szM,fun j oj hj hl e he hb => ?_,fun t h1 h2=>by rw[marks_get h2];simp;omega⟩
  have hjl:j<l.toArray.size:=(Array.getElem?_eq_some_iff.1 hj).1
  rw[marks_get hjl]at hl
  simp only[Bool.and_eq_true,decide_eq_true_eq]at hl
  obtain⟨oj',ho',ha,_⟩:=hinfo j hl.1 hl.2
  rw[hj]at ho'
  cases ho'
  exact absurd he (hnil _ ha e)
 have layM:Laid k n (marks l.toArray.size k n):=fun j h1 h2=>by rw[marks_get (by omega)];simp[h1,h2]
 have H:=headC_lex (md := .any) (g:=l.toArray.size-n) (W:=w) hsel hs hc hn hkn (l.take k) 0 _ a (fun j hj=>by
  have hj':j<k:=by rw[htl]at hj;exact hj
  simp[hj']) (by simpa using htl) invM layM (by rw[htl];exact hlex) h
 have:=wpAny_many (md := .any) (Q:=Q) (g:=l.toArray.size-n) (css:=css) (W:=w) (k:=k) (n:=n) (L:=fun listed' a'=>Region.seqB .any l.toArray (l.toArray.size-n) n listed'=true∧∀(β:Got) w',(∀j,k≤j→j<n→∃B,β j=some B)→Cls w css β w'→wpList P l.toArray Q (l.drop n) (putF l.toArray β (List.range' k (n-k)) a') w') hkn hn
  (fun j h1 h2=>by
   obtain⟨oj,ho,x1,x2,x3,_⟩:=hinfo j h1 h2
   obtain⟨t,ht⟩:=hal j oj h1 h2 (by simpa using ho)
   exact⟨oj,ho,by simpa using x2,hnil oj x1,(by intro h;rw[h]at x3;cases x3),t,ht⟩)
  (Region.noSelect_spec hsel) hs hc
  (fun i oi j oj hi h1 h2 hoi hoj=>by
   obtain⟨oj',ho',_,_,_,x4⟩:=hinfo j h1 h2
   rw[hoj]at ho'
   cases ho'
   exact x4 i oi hi hoi)
  (fun i j i1 i2 j1 j2 hne he=>by
   have h3:=List.all_eq_true.1 (List.all_eq_true.1 hdst i (List.mem_range.2 i2)) j (List.mem_range.2 j2)
   have h4:¬i<k:=by omega
   have h5:¬j<k:=by omega
   rw[he]at h3
   simp[h4,h5,hne]at h3)
  (fun listed a' hL=>seqB_ready hL.1)
  (fun β listed a' w' hfull hw' hL=>by
   have:=wpAny_of_seq (md := .any) (Q':=Q) (l.drop n) n listed _ w' (fun j=>by simp[List.getElem?_drop]) (by rw[hdl];exact hL.1) (hL.2 β w' hfull hw')
   rwa [hdl]at this)
  n k (List.range' k (n-k)) _ _ a (fun _=>none) w.drew (by simp;omega) List.nodup_range' (fun j=>by rw[List.mem_range'_1];simp;omega) (fun j hj=>absurd rfl hj) inv0 szM layM
  (fun j hj=>by have:=List.mem_range'_1.1 hj;exact getD_in (by simp at hn ⊢;omega) (getD_replicate_false _ _))
  (fun j b hj=>by
   by_cases hjl:j<l.toArray.size
   ·rw[marks_get hjl]
    have:¬(k≤j∧j<n):=fun h=>hj (by rw[List.mem_range'_1];omega)
    have e:(decide (k≤j)&&decide (j<n))=false:=by simpa using this
    rw[e]
    simp at hjl
    simp[hjl]
   ·rw[getD_out b (by simp at hjl ⊢;exact hjl),getD_out b (by rw[szM];omega)])
  (by rw[htl]at H;exact H) ⟨(Below.refl _ _).drew,fun j B h=>(by cases h),fun i j B B' h=>(by cases h)⟩
 have e0:∀js (a:Act),putF l.toArray (fun _=>none) js a=a:=fun js=>by
  induction js with
  | nil=>intro a;rfl
  | cons j js ih=>intro a;exact ih a
 rw[e0,show n+(l.toArray.size-n)=l.toArray.size by omega]at this
 exact this
theorem pair_alloc_any {P:Program}{Q:Exit→Act→World→Prop}{a:Act}{w:World}{l:List Oper} (k:Nat) (c0 c1:Array Value) (t0 t1:TypeId) (o0 o1:Oper) (h0:l[k]?=some o0) (h1:l[k+1]?=some o1) (hB:manyB .any l.toArray k (k+2)=true)
  (hal0:∀a w,(execOp (Act.eval a) o0).run P w = .ok (.value (.pointer (some ⟨w.heap.size,0,none⟩))) (w.alloc (.cells c0 t0)))
  (hal1:∀a w,(execOp (Act.eval a) o1).run P w = .ok (.value (.pointer (some ⟨w.heap.size,0,none⟩))) (w.alloc (.cells c1 t1)))
  (h:wpCalm P l.toArray w (fun a'=>∀B0 B1 w',NewVar w B0 c0 w'→NewVar w B1 c1 w'→B0≠B1→wpList P l.toArray Q (l.drop (k+2)) ((a'.put o0.dst (.pointer (some ⟨B0,0,none⟩))).put o1.dst (.pointer (some ⟨B1,0,none⟩))) w') (l.take k) a) :
  wpAny P .any l.toArray Q l.toArray.size (Array.replicate l.toArray.size false) a { w with drawn:=w.drawn+1} := by
 refine many_any k (k+2) (fun j=>if j=k then c0 else c1) hB (fun j oj j0 j1 hj => ?_) ?_
 ·by_cases e:j=k
  ·subst e
   rw[h0]at hj
   cases hj
   rw[if_pos rfl];exact⟨t0,hal0⟩
  ·obtain rfl:j=k+1:=by omega
   rw[h1]at hj
   cases hj
   rw[if_neg e];exact⟨t1,hal1⟩
 ·have mono:∀(m:List Oper) (K K':Act→Prop) (a:Act),(∀a,K a→K' a)→wpCalm P l.toArray w K m a→wpCalm P l.toArray w K' m a:=fun m=>by
   induction m with
   | nil=>intro K K' a hk h;exact hk a h
   | cons o m ih =>
    intro K K' a hk h
    unfold wpCalm at h ⊢
    split
    ·rename_i hw
     rw[if_pos hw]at h
     obtain⟨v,x1,x2⟩:=h
     exact⟨v,x1,ih _ _ _ hk x2⟩
    ·rename_i hw
     rw[if_neg hw]at h
     exact ih _ _ _ hk h
  refine mono _ _ _ _ (fun a' ha β w' hfull hw' => ?_) h
  obtain⟨B0,b0⟩:=hfull k (by omega) (by omega)
  obtain⟨B1,b1⟩:=hfull (k+1) (by omega) (by omega)
  have n0:=hw'.new k B0 b0
  have n1:=hw'.new (k+1) B1 b1
  rw[if_pos rfl]at n0
  rw[if_neg (by omega)]at n1
  have:=ha B0 B1 w' n0 n1 (hw'.apart k (k+1) B0 B1 b0 b1 (by omega))
  rw[show k+2-k=2 by omega]
  show wpList P l.toArray Q (l.drop (k+2)) (putF l.toArray β [k,k+1] a') w'
  unfold putF putF putF
  rw[b0,b1]
  simpa[h0,h1]using this
theorem calm_two {P:Program}{id:Nat}{Q:Exit→Act→World→Prop}{a:Act}{w:World}{l:List Oper} (k:Nat) (c0 c1:Array Value) (t0 t1:TypeId) (o0 o1:Oper) (h0:l[k]?=some o0) (h1:l[k+1]?=some o1) (hm:P.follows .mixedOrders=true) (hB:manyB .any l.toArray k (k+2)=true)
  (hal0:∀a w,(execOp (Act.eval a) o0).run P w = .ok (.value (.pointer (some ⟨w.heap.size,0,none⟩))) (w.alloc (.cells c0 t0)))
  (hal1:∀a w,(execOp (Act.eval a) o1).run P w = .ok (.value (.pointer (some ⟨w.heap.size,0,none⟩))) (w.alloc (.cells c1 t1)))
  (h:(∀b,b<w.heap.size→∀d os o,(grow (redrawn w d) os).cell? ⟨b,o,none⟩=w.cell? ⟨b,o,none⟩) →
   wpCalm P l.toArray w (fun a'=>∀B0 B1 w',NewVar w B0 c0 w'→NewVar w B1 c1 w'→B0≠B1→wpList P l.toArray Q (l.drop (k+2)) ((a'.put o0.dst (.pointer (some ⟨B0,0,none⟩))).put o1.dst (.pointer (some ⟨B1,0,none⟩))) w') (l.take k) a):(Code.region id l.toArray true).wp P Q a w :=
 wp_region_any hm (pair_alloc_any k c0 c1 t0 t1 o0 o1 h0 h1 hB hal0 hal1 (h fun b hb d os o=>(below_regrown w d os).cell (p:=⟨b,o,none⟩) hb))
end Go.Proofs.YticobgianbecpaaGreatDoor
namespace Go.Proofs.YticobgianbecpaaGreatDoor
open Go Go.Sort Go.RowKit
theorem drew_bel {P:Program}{f:FuncId}{args:Array Value}{w:World}{v:Ending} (h:Calls P f args w fun e w'=>e=v∧∃k,w'=w.drewN k):Calls P f args w fun e w'=>e=v∧Below w.heap.size w w' :=
 h.mono fun _ _ ⟨a,k,b⟩=>⟨a,by
  subst b
  have:∀k,Below w.heap.size w (w.drewN k):=fun k=>by
   induction k with
   | zero=>exact Below.refl _ _
   | succ n ih=>exact ih.drew
  exact this k⟩
theorem setCell_twice (w:World) (blk off:Nat) (v v':Value):(w.setCell ⟨blk,off,none⟩ v).setCell ⟨blk,off,none⟩ v'=w.setCell ⟨blk,off,none⟩ v':=by
 rw[setCell_eq,setCell_eq,mapBlock_mapBlock,setCell_eq]
 congr 1
 funext c
 simp
end Go.Proofs.YticobgianbecpaaGreatDoor
