/- Regions that draw their order and hold calls that turn ONE cell of an old block: one walk, in the order of the text, serves every order. -/
import Derived.Test.YticobgianbecpaaGreatDoorKCalm
namespace Go.Proofs.YticobgianbecpaaGreatDoor
open Go Go.Sort Go.RowKit
def Trn (B:Nat) (s:Int) (w w':World):Prop:=Below w.heap.size (w.setCell ⟨B,0,none⟩ (.int .i64 s)) w'
def gt (W:World) (B:Nat) (s:Int) (p:Regrown):World:=grow (redrawn (W.setCell ⟨B,0,none⟩ (.int .i64 s)) p.d) p.os
theorem size_set (w:World) (B:Nat) (s:Int):(w.setCell ⟨B,0,none⟩ (.int .i64 s)).heap.size=w.heap.size:=by simp
theorem trn_gt (W:World) (B:Nat) (s:Int) (p:Regrown):Trn B s W (gt W B s p):=by
 have:=below_regrown (W.setCell ⟨B,0,none⟩ (.int .i64 s)) p.d p.os
 rw[size_set]at this
 exact this
theorem gt_of_trn {W w:World}{B:Nat}{s:Int} (h:Trn B s W w):∃p,w=gt W B s p:=by
 refine regrown_of_below (w:=W.setCell ⟨B,0,none⟩ (.int .i64 s)) ?_
 rw[size_set]
 exact h
theorem heap_set_same {w1 w2:World}{k:Nat} (A:Addr) (v:Value) (h:w1.heap[k]?=w2.heap[k]?):(w1.setCell A v).heap[k]?=(w2.setCell A v).heap[k]?:=by
 simp only[World.setCell,Array.getElem?_modify,h]
theorem set_twice (w:World) (B:Nat) (u v:Value):(w.setCell ⟨B,0,none⟩ u).setCell ⟨B,0,none⟩ v=w.setCell ⟨B,0,none⟩ v:=by
 rw[setCell_eq,setCell_eq,mapBlock_mapBlock,setCell_eq]
 congr 1
 funext c
 simp
theorem Trn.trans {B:Nat}{s s':Int}{a b c:World} (h:Trn B s a b) (k:Trn B s' b c):Trn B s' a c:=by
 have hs:a.heap.size≤b.heap.size:=by have:=h.size;rwa [size_set]at this
 refine⟨k.os.trans h.os,k.tape.trans h.tape,k.output.trans h.output,?_,fun i hi => ?_⟩
 ·have:=k.size;rw[size_set]at this ⊢;omega
 ·rw[k.block i (by omega),heap_set_same _ _ (h.block i hi),set_twice]
theorem Trn.bel {B:Nat}{s:Int}{a b c:World} (h:Trn B s a b) (k:Below b.heap.size b c):Trn B s a c:=by
 have hs:a.heap.size≤b.heap.size:=by have:=h.size;rwa [size_set]at this
 exact Below.trans h (k.mono hs)
theorem heap_set_held {w:World}{B:Nat}{v:Value} (h:w.cell? ⟨B,0,none⟩=some v) (k:Nat):(w.setCell ⟨B,0,none⟩ v).heap[k]?=w.heap[k]?:=by
 by_cases hk:k=B
 ·subst hk
  simp only[World.setCell,Array.getElem?_modify,if_true]
  unfold World.cell? at h
  cases ho:w.heap[k]? with
  | none=>rfl
  | some o =>
   rw[show w.heap[({ block:=k,off:=0,spot:=none} : Addr).block]?=some o from ho]at h
   cases o with
   | cells c t f =>
    simp at h ⊢
    obtain⟨h0,h1⟩:=Array.getElem?_eq_some_iff.1 h
    apply Array.ext_getElem?
    intro i
    rw[Array.getElem?_setIfInBounds]
    by_cases hi:0=i
    ·subst hi;simp[h0,h1]
    ·rw[if_neg hi]
   | _=>simp
 ·exact Below.heap_setCell _ _ _ _ hk
theorem Trn.of_bel {B:Nat}{s:Int}{a b:World} (h:a.cell? ⟨B,0,none⟩=some (.int .i64 s)) (k:Below a.heap.size a b):Trn B s a b :=
 ⟨k.os,k.tape,k.output,by rw[size_set];exact k.size,fun i hi=>(k.block i hi).trans (heap_set_held h i).symm⟩
theorem Trn.size_le {B:Nat}{s:Int}{a b:World} (h:Trn B s a b):a.heap.size≤b.heap.size:=by have:=h.size;rwa [size_set]at this
theorem Trn.other {B:Nat}{s:Int}{a b:World} (h:Trn B s a b){k o:Nat} (hk:k<a.heap.size) (hne:⟨B,0,none⟩≠(⟨k,o,none⟩:Addr)):b.cell? ⟨k,o,none⟩=a.cell? ⟨k,o,none⟩ :=
 (Below.cell h (p:=⟨k,o,none⟩) hk).trans (World.cell?_setCell_other _ _ _ _ hne)
theorem Trn.free {B:Nat}{s:Int}{a b:World} (h:Trn B s a b){k o:Nat} (hk:k<a.heap.size):b.frozen? ⟨k,o,none⟩=a.frozen? ⟨k,o,none⟩ :=
 (Below.frozen h (p:=⟨k,o,none⟩) hk).trans (World.frozen?_setCell _ _ _ _)
theorem Trn.held {B:Nat}{s:Int}{a b:World} (h:Trn B s a b){u:Value} (hc:a.cell? ⟨B,0,none⟩=some u) (hB:B<a.heap.size):b.cell? ⟨B,0,none⟩=some (.int .i64 s) :=
 (Below.cell h (p:=⟨B,0,none⟩) hB).trans (World.cell?_setCell_same _ _ _ hc)
section
variable {P:Program}{ops:Array Oper}{md:Region.Mode}{W:World}{B:Nat}{E:Nat→Bool}
def pAt (P:Program) (o:Oper) (a:Act) (W:World) (B:Nat) (v:Value):Prop:=∀(s:Int) (p:Regrown),cUpon P (gt W B s p) v ((execOp a.eval o).run P (gt W B s p))
def tUpon (P:Program) (B:Nat) (s':Int) (w:World) (v:Value):Result Next→Prop
 | .ok (.enter f args) w'=>w'=w∧Calls P f args w (fun e w''=>e = .returned v∧Trn B s' w w'')
 | _=>False
def tAt (P:Program) (o:Oper) (a:Act) (W:World) (B:Nat) (s s':Int) (v:Value):Prop:=∀p:Regrown,tUpon P B s' (gt W B s p) v ((execOp a.eval o).run P (gt W B s p))
def pOne (P:Program) (o:Oper) (a:Act) (W:World) (B:Nat) (s:Int) (K:Int→Act→Prop):Prop:=∃v,pAt P o a W B v∧K s (a.put o.dst v)
def tOne (P:Program) (o:Oper) (a:Act) (W:World) (B:Nat) (s:Int) (K:Int→Act→Prop):Prop:=∃v,∃s',tAt P o a W B s s' v∧K s' (a.put o.dst v)
def tOp (P:Program) (ops:Array Oper) (W:World) (B:Nat) (E:Nat→Bool) (i:Nat) (K:Int→Act→Prop) (s:Int) (a:Act):Prop :=
 match ops[i]? with
 | none=>K s a
 | some o=>if Region.wanted o (yielded ops a.tmps)then(if E i then tOne P o a W B s K else pOne P o a W B s K)else K s (a.put o.dst undef)
def tY (P:Program) (ops:Array Oper) (W:World) (B:Nat) (o:Oper) (e:Bool) (s s':Int) (v:Value) (a:Act):Prop :=
 (Region.wanted o (yielded ops a.tmps)=true∧e=true∧tAt P o a W B s s' v)∨(Region.wanted o (yielded ops a.tmps)=true∧e=false∧s'=s∧pAt P o a W B v) ∨
 (Region.wanted o (yielded ops a.tmps)=false∧s'=s∧v=undef)
theorem tY.op {i:Nat}{o:Oper}{v:Value}{s s':Int}{a:Act} (hi:ops[i]?=some o) (hy:tY P ops W B o (E i) s s' v a){K:Int→Act→Prop} (h:K s' (a.put o.dst v)):tOp P ops W B E i K s a:=by
 unfold tOp
 simp only[hi]
 rcases hy with⟨hw,he,hv⟩|⟨hw,he,rfl,hv⟩|⟨hw,rfl,rfl⟩
 ·simp only[hw,he,if_true];exact⟨v,s',hv,h⟩
 ·simp only[hw,he,if_true,Bool.false_eq_true,if_false];exact⟨v,hv,h⟩
 ·simp only[hw,Bool.false_eq_true,if_false];exact h
theorem tY_of {i:Nat}{o:Oper}{s:Int}{a:Act}{K:Int→Act→Prop} (hi:ops[i]?=some o) (h:tOp P ops W B E i K s a):∃v s',tY P ops W B o (E i) s s' v a∧K s' (a.put o.dst v):=by
 unfold tOp at h
 simp only[hi]at h
 by_cases hw:Region.wanted o (yielded ops a.tmps)=true
 ·simp only[hw,if_true]at h
  by_cases he:E i=true
  ·rw[if_pos he]at h
   obtain⟨v,s',h1,h2⟩:=h
   exact⟨v,s',.inl ⟨hw,he,h1⟩,h2⟩
  ·rw[if_neg he]at h
   obtain⟨v,h1,h2⟩:=h
   exact⟨v,s,.inr (.inl ⟨hw,by simpa using he,rfl,h1⟩),h2⟩
 ·exact⟨undef,s,.inr (.inr ⟨by simpa using hw,rfl,rfl⟩),by simpa[hw]using h⟩
theorem tY.of_same {o:Oper}{e:Bool}{v:Value}{s s':Int}{a a':Act} (hy:tY P ops W B o e s s' v a) (he:execOp a'.eval o=execOp a.eval o)
  (hw:Region.wanted o (yielded ops a'.tmps)=Region.wanted o (yielded ops a.tmps)):tY P ops W B o e s s' v a':=by
 unfold tY tAt pAt at *
 rw[he,hw]
 exact hy
theorem tY.put {o:Oper}{e:Bool}{v:Value}{s s':Int}{a:Act} (hs:∀cs b,o.op ≠ .select cs b){dst:Option Tmp} (u:Value) (hd:∀d,dst=some d→d∉o.looksAt ops) (hy:tY P ops W B o e s s' v a):tY P ops W B o e s s' v (a.put dst u) :=
 hy.of_same (execOp_put o hs a dst u hd) (wanted_put o a dst u hd)
theorem tY.unput {o:Oper}{e:Bool}{v:Value}{s s':Int}{a:Act} (hs:∀cs b,o.op ≠ .select cs b){dst:Option Tmp} (u:Value) (hd:∀d,dst=some d→d∉o.looksAt ops) (hy:tY P ops W B o e s s' v (a.put dst u)):tY P ops W B o e s s' v a :=
 hy.of_same (execOp_put o hs a dst u hd).symm (wanted_put o a dst u hd).symm
theorem tY_swap {oi oj:Oper}{ei ej:Bool}{s s' s2:Int}{v u:Value}{a:Act} (hi:tY P ops W B oi ei s s' v a) (hj:tY P ops W B oj ej s' s2 u a) (hne:¬(ei=true∧ej=true)) :
  ∃s1,tY P ops W B oj ej s s1 u a∧tY P ops W B oi ei s1 s2 v a:=by
 rcases hi with⟨hw,he,hv⟩|⟨hw,he,rfl,hv⟩|⟨hw,rfl,rfl⟩
 ·rcases hj with⟨kw,ke,kv⟩|⟨kw,ke,rfl,kv⟩|⟨kw,rfl,rfl⟩
  ·exact absurd ⟨he,ke⟩ hne
  ·exact⟨s,.inr (.inl ⟨kw,ke,rfl,kv⟩),.inl ⟨hw,he,hv⟩⟩
  ·exact⟨s,.inr (.inr ⟨kw,rfl,rfl⟩),.inl ⟨hw,he,hv⟩⟩
 ·exact⟨s2,hj,.inr (.inl ⟨hw,he,rfl,hv⟩)⟩
 ·exact⟨s2,hj,.inr (.inr ⟨hw,rfl,rfl⟩)⟩
def headT (P:Program) (md:Region.Mode) (ops:Array Oper) (W:World) (B:Nat) (E:Nat→Bool) (k x:Nat) (L:Array Bool→Int→Act→Prop):Nat→Array Bool→Int→Act→Prop
 | 0,listed,s,a=>L listed s a
 | f+1,listed,s,a=>(∃i∈Region.ready md ops listed,i≠x)∧∀i∈Region.ready md ops listed,i≠x→i<k∧tOp P ops W B E i (headT P md ops W B E k x L f (listed.setIfInBounds i true)) s a
structure Forced (md:Region.Mode) (ops:Array Oper) (E:Nat→Bool) (n:Nat):Prop where
 tail:∀listed,HeadInv md ops n listed→∀i,i<n→listed.getD i true=false→∀t,n≤t→t∉Region.ready md ops listed
 turn:∀listed,HeadInv md ops n listed→∀i j,E i=true→E j=true→i<j→listed.getD i true=false→j∉Region.ready md ops listed
theorem headT_first {k x n i:Nat}{oi:Oper}{v:Value}{L:Array Bool→Int→Act→Prop} (hi:ops[i]?=some oi) (hsel:∀(j:Nat) (o:Oper) cs b,ops[j]?=some o→o.op ≠ .select cs b)
  (hF:Forced md ops E n) (hkn:k≤n) (hnk:∀j,j<n→j≠x→j<k) (hin:i<k) (hix:i≠x)
  (hdone:∀listed s a,L listed s a→∀j∈Region.ready md ops listed,j=x∨n≤j) (f:Nat):∀(listed:Array Bool) (s s':Int) (a:Act),HeadInv md ops n listed →
   (∀j oj,ops[j]?=some oj→j≠i→listed.getD j true=false→(∀e∈oj.after,Region.binds md e=true→e.on≠i)→oi.apart ops oj=true) →
   i∈Region.ready md ops listed→tY P ops W B oi (E i) s s' v a →
   headT P md ops W B E k x L f (listed.setIfInBounds i true) s' (a.put oi.dst v)→headT P md ops W B E k x L (f+1) listed s a:=by
 induction f with
 | zero =>
  intro listed s s' a inv _ hr hy H
  have hun:=(mem_ready.1 hr).1
  refine⟨⟨i,hr,hix⟩,fun j hj hjx => ?_⟩
  have hjn:j<n:=Nat.lt_of_not_le fun h=>hF.tail _ inv i (by omega) hun j h hj
  refine⟨hnk j hjn hjx,?_⟩
  by_cases hji:j=i
  ·subst hji;exact hy.op hi H
  ·rcases hdone _ _ _ H j (ready_mono hj hji)with h|h
   ·exact absurd h hjx
   ·omega
 | succ f ih =>
  intro listed s s' a inv hfree hr hy H
  have hun:=(mem_ready.1 hr).1
  refine⟨⟨i,hr,hix⟩,fun j hj hjx => ?_⟩
  have hjn:j<n:=Nat.lt_of_not_le fun h=>hF.tail _ inv i (by omega) hun j h hj
  refine⟨hnk j hjn hjx,?_⟩
  by_cases hji:j=i
  ·subst hji;exact hy.op hi H
  obtain⟨hjun,oj,hoj,hall⟩:=mem_ready.1 hj
  have hnot:∀e∈oj.after,Region.binds md e=true→e.on≠i:=fun e he hb heq=>by
   have:=hall e he hb
   rw[heq,getD_both hun]at this
   exact absurd this (by decide)
  have hex:¬(E i=true∧E j=true):=fun⟨h1,h2⟩=>by
   rcases Nat.lt_or_gt_of_ne hji with h|h
   ·exact hF.turn _ inv j i h2 h1 h hjun hr
   ·exact hF.turn _ inv i j h1 h2 h hun hj
  obtain⟨u,s2,hyj,hK⟩:=tY_of hoj (H.2 j (ready_mono hj hji) hjx).2
  obtain⟨a1,a2,a3⟩:=Oper.apart_spec (hfree j oj hoj hji hjun hnot)
  have hyj':tY P ops W B oj (E j) s' s2 u a:=hyj.unput (fun cs b=>hsel j oj cs b hoj) v a1
  obtain⟨s1,hj1,hi1⟩:=tY_swap hy hyj' hex
  refine hj1.op hoj (ih (listed.setIfInBounds j true) s1 s2 _ (inv.set hj hjn) (fun k' ok hk hki hu hno => ?_) (ready_mono hr (Ne.symm hji)) (hi1.put (fun cs b=>hsel i oi cs b hi) u a3) ?_)
  ·refine hfree k' ok hk hki ?_ hno
   by_cases hjk':j=k'
   ·subst hjk';exact hjun
   ·rw[getD_set_ne true hjk']at hu;exact hu
  ·rw[Array.setIfInBounds_comm _ _ hji,← Act.put_comm a v u a2]
   exact hK
def wpTurn (P:Program) (ops:Array Oper) (W:World) (B:Nat) (E:Nat→Bool) (Q:Int→Act→Prop):Nat→List Oper→Int→Act→Prop
 | _,[],s,a=>Q s a
 | m,o::rest,s,a=>if Region.wanted o (yielded ops a.tmps)then(if E m then tOne P o a W B s (wpTurn P ops W B E Q (m+1) rest)else pOne P o a W B s (wpTurn P ops W B E Q (m+1) rest))else wpTurn P ops W B E Q (m+1) rest s (a.put o.dst undef)
theorem headT_lex {k x n g:Nat}{Lq:Int→Act→Prop} (hsel:Region.noSelect ops=true) (hF:Forced md ops E n) (hkn:k≤n) (hnk:∀j,j<n→j≠x→j<k) (hx:∀j,j<k→j≠x)
  (hseq:∀listed,Region.seqB md ops g k listed=true→∀j∈Region.ready md ops listed,j=x∨n≤j) (l:List Oper) :
  ∀(m:Nat) (listed:Array Bool) (s:Int) (a:Act),(∀j,j<l.length→l[j]?=ops[m+j]?)→m+l.length=k→HeadInv md ops n listed →
  Region.lexHead md ops g l.length m listed=true→wpTurn P ops W B E Lq m l s a →
  headT P md ops W B E k x (fun listed' s' a'=>Region.seqB md ops g k listed'=true∧Lq s' a') l.length listed s a:=by
 induction l with
 | nil =>
  intro m listed s a _ hk _ hB h
  obtain rfl:m=k:=by simpa using hk
  exact⟨by simpa[Region.lexHead]using hB,h⟩
 | cons o l ih =>
  intro m listed s a hl hk inv hB h
  have h0:ops[m]?=some o:=by simpa using(hl 0 (by simp)).symm
  simp only[List.length_cons,Region.lexHead,Bool.and_eq_true]at hB
  obtain⟨⟨hr,hf⟩,hB'⟩:=hB
  have hmk:m<k:=by simp only[List.length_cons]at hk;omega
  have hr':m∈Region.ready md ops listed:=by simpa using hr
  have hq:tOp P ops W B E m (wpTurn P ops W B E Lq (m+1) l) s a:=by unfold tOp;simp only[h0];exact h
  obtain⟨v,s',hy,hK⟩:=tY_of h0 hq
  exact headT_first h0 (Region.noSelect_spec hsel) hF hkn hnk hmk (hx m hmk) (fun listed' s' a' hL=>hseq _ hL.1) l.length listed s s' a inv (Region.free_spec h0 hf) hr' hy
   (ih (m+1) _ _ _ (fun j hj=>by have:=hl (j+1) (by simp;omega);simpa[Nat.add_assoc,Nat.add_comm 1 j]using this) (by simp only[List.length_cons]at hk;omega) (inv.set hr' (by omega)) hB' hK)
structure Led (W:World) (B:Nat) (C:Int→World→Prop):Prop where
 sub:∀s w,C s w→Trn B s W w
 bel:∀s w w',C s w→Below w.heap.size w w'→C s w'
 trn:∀s s' w w',C s w→Trn B s' w w'→C s' w'
theorem wpOp_of_tOp {C:Int→World→Prop} (hC:Led W B C){i:Nat}{K:Int→Act→Prop}{K':Act→World→Prop}{Q:Exit→Act→World→Prop}{s:Int}{a:Act}{w:World} (hw:C s w)
  (h:∀s' a' w',C s' w'→K s' a'→K' a' w') (hh:tOp P ops W B E i K s a):wpOp P ops Q i K' a w:=by
 unfold tOp at hh
 unfold wpOp
 split
 ·rename_i ho;simp only[ho]at hh;exact h _ _ _ hw hh
 ·rename_i o ho
  simp only[ho]at hh
  split
  ·rename_i hwant
   simp only[hwant,if_true]at hh
   refine .inl ?_
   obtain⟨p,rfl⟩:=gt_of_trn (hC.sub _ _ hw)
   unfold Oper.wp
   by_cases he:E i=true
   ·rw[if_pos he]at hh
    obtain⟨v,s',h1,h2⟩:=hh
    have h3:=h1 p
    generalize (execOp a.eval o).run P (gt W B s p)=r at *
    cases r with
    | halt x w'=>exact absurd h3 id
    | ok n w' =>
     cases n with
     | enter f args =>
      obtain⟨e1,hc⟩:=h3
      rw[e1]
      exact hc.mono fun e w'' ⟨he,hw''⟩=>by subst he;exact h _ _ _ (hC.trn _ _ _ _ hw hw'') h2
     | _=>exact absurd h3 id
   ·rw[if_neg he]at hh
    obtain⟨v,h1,h2⟩:=hh
    have h3:=h1 s p
    generalize (execOp a.eval o).run P (gt W B s p)=r at *
    cases r with
    | halt x w'=>exact absurd h3 id
    | ok n w' =>
     cases n with
     | value u=>obtain⟨e1,e2⟩:=h3;rw[e1,e2];exact h _ _ _ hw h2
     | skip=>obtain⟨e1,e2⟩:=h3;subst e2;rw[e1];exact h _ _ _ hw h2
     | enter f args =>
      obtain⟨e1,hc⟩:=h3
      rw[e1]
      exact hc.mono fun e w'' ⟨he,hw''⟩=>by subst he;exact h _ _ _ (hC.bel _ _ _ hw hw'') h2
     | _=>exact absurd h3 id
  ·rename_i hwant;simp only[hwant]at hh;exact h _ _ _ hw hh
theorem wpAny_of_headT {C:Int→World→Prop} (hC:Led W B C){k g:Nat}{L:Array Bool→Int→Act→Prop}{Q:Exit→Act→World→Prop} (hL:∀listed s a w,C s w→L listed s a→wpAny P md ops Q g listed a w) :
  ∀(f:Nat) (listed:Array Bool) (s:Int) (a:Act) (w:World),C s w→headT P md ops W B E k ops.size L f listed s a→wpAny P md ops Q (f+g) listed a w
 | 0,listed,s,a,w,hw,h=>by rw[Nat.zero_add];exact hL _ _ _ _ hw h
 | f+1,listed,s,a,w,hw,h=>by
  rw[Nat.add_right_comm]
  obtain⟨⟨i0,hi0,_⟩,hall⟩:=h
  refine⟨fun h0=>absurd hi0 (by rw[h0];exact List.not_mem_nil),fun i hi => ?_⟩
  have hne:i≠ops.size:=by
   obtain⟨_,o,ho,_⟩:=mem_ready.1 hi
   have:=(Array.getElem?_eq_some_iff.1 ho).1
   omega
  exact wpOp_of_tOp hC hw (fun s' a' w' hw' h'=>wpAny_of_headT hC hL f _ s' a' w' hw' h') (hall i hi hne).2
theorem led_trn (W:World) (B:Nat):Led W B (fun s w=>Trn B s W w):=⟨fun _ _ h=>h,fun _ _ _ h k=>h.bel k,fun _ _ _ _ h k=>h.trans k⟩
structure NewT (W:World) (B N:Nat) (cs:Array Value) (s:Int) (w:World):Prop where
 trn:Trn B s W w
 lo:W.heap.size≤N
 hi:N<w.heap.size
 cell:∀o,w.cell? ⟨N,o,none⟩=cs[o]?
 free:∀o,w.frozen? ⟨N,o,none⟩=false
theorem led_new (W:World) (B N:Nat) (cs:Array Value) (hB:B<W.heap.size):Led W B (NewT W B N cs) :=
 ⟨fun _ _ h=>h.trn,
  fun _ w w' h k=>⟨h.trn.bel k,h.lo,Nat.lt_of_lt_of_le h.hi k.size,fun o=>(k.cell (p:=⟨N,o,none⟩) h.hi).trans (h.cell o),fun o=>(k.frozen (p:=⟨N,o,none⟩) h.hi).trans (h.free o)⟩,
  fun _ _ w w' h k=>⟨h.trn.trans k,h.lo,Nat.lt_of_lt_of_le h.hi k.size_le,fun o=>(k.other h.hi (fun e=>by injection e with e1;have:=h.lo;omega)).trans (h.cell o),fun o=>(k.free h.hi).trans (h.free o)⟩⟩
theorem newT_alloc {cs:Array Value}{t:TypeId}{s:Int}{w:World} (hb:Trn B s W w):NewT W B w.heap.size cs s (w.alloc (.cells cs t)):=by
 have e:(w.alloc (.cells cs t)).heap[w.heap.size]?=some (.cells cs t):=by show(w.heap.push _)[w.heap.size]?=_;simp
 refine⟨Below.alloc hb hb.size_le _,hb.size_le,by show w.heap.size<(w.heap.push _).size;simp,fun o => ?_,fun o => ?_⟩
 ·simp only[World.cell?,e];rfl
 ·simp only[World.frozen?,e];simp
theorem headT_of_headT {k:Nat}{ok:Oper}{u:Value}{L L':Array Bool→Int→Act→Prop}
  (hk:ops[k]?=some ok) (hsel:∀(j:Nat) (o:Oper) cs b,ops[j]?=some o→o.op ≠ .select cs b)
  (hF:Forced md ops E (k+1))
  (hap:∀i oi,i<k→ops[i]?=some oi→ok.apart ops oi=true∧∀e∈oi.after,Region.binds md e=true→e.on≠k)
  (hL:∀listed s a,listed.getD k true=false→L listed s a→L' (listed.setIfInBounds k true) s (a.put ok.dst u)) (f:Nat) :
  ∀(listed:Array Bool) (s:Int) (a:Act),HeadInv md ops (k+1) listed→k∈Region.ready md ops listed→headT P md ops W B E k k L f listed s a →
   headT P md ops W B E (k+1) ops.size L' f (listed.setIfInBounds k true) s (a.put ok.dst u):=by
 induction f with
 | zero=>intro listed s a _ hkr h;exact hL _ _ _ (mem_ready.1 hkr).1 h
 | succ f ih =>
  intro listed s a inv hkr h
  obtain⟨⟨i0,hi0,hi0k⟩,hall⟩:=h
  have hi0lt:=(hall i0 hi0 hi0k).1
  have invk:=inv.set hkr (by omega)
  have hksz:k<ops.size:=(Array.getElem?_eq_some_iff.1 hk).1
  have hun0:(listed.setIfInBounds k true).getD i0 true=false:=by rw[getD_set_ne true (by omega)];exact(mem_ready.1 hi0).1
  refine⟨⟨i0,ready_mono hi0 hi0k,by omega⟩,fun j hj _ => ?_⟩
  have hjn:j<k+1:=Nat.lt_of_not_le fun h=>hF.tail _ invk i0 (by omega) hun0 j h hj
  obtain⟨hjun,oj,hoj,hdeps⟩:=mem_ready.1 hj
  have hjk:j≠k:=by
   rintro rfl
   have hsz:j<listed.size:=by rw[inv.size];omega
   simp[hsz]at hjun
  have hjr:j∈Region.ready md ops listed:=by
   refine mem_ready.2 ⟨by rw[getD_set_ne true (Ne.symm hjk)]at hjun;exact hjun,oj,hoj,fun e he hb => ?_⟩
   have h1:=hdeps e he hb
   rw[getD_set_ne false (Ne.symm ((hap j oj (by omega) hoj).2 e he hb))]at h1
   exact h1
  refine⟨hjn,?_⟩
  obtain⟨_,hcop⟩:=hall j hjr hjk
  obtain⟨v,s',hy,hK⟩:=tY_of hoj hcop
  obtain⟨a1,a2,a3⟩:=Oper.apart_spec (hap j oj (by omega) hoj).1
  refine(hy.put (fun cs b=>hsel j oj cs b hoj) u a1).op hoj ?_
  rw[Array.setIfInBounds_comm _ _ (Ne.symm hjk),Act.put_comm a u v a2]
  exact ih _ _ _ (inv.set hjr (by omega)) (ready_mono hkr (Ne.symm hjk)) hK
theorem wpAny_newT {k g:Nat}{ok:Oper}{cs:Array Value}{t:TypeId}{L:Array Bool→Int→Act→Prop}{L':Nat→Array Bool→Int→Act→Prop}{Q:Exit→Act→World→Prop} (hB:B<W.heap.size)
  (hk:ops[k]?=some ok) (hg:ok.guard=none) (hal:∀a w,(execOp (Act.eval a) ok).run P w = .ok (.value (.pointer (some ⟨w.heap.size,0,none⟩))) (w.alloc (.cells cs t)))
  (hsel:∀(j:Nat) (o:Oper) cs b,ops[j]?=some o→o.op ≠ .select cs b)
  (hF:Forced md ops E (k+1))
  (hap:∀i oi,i<k→ops[i]?=some oi→ok.apart ops oi=true∧∀e∈oi.after,Region.binds md e=true→e.on≠k)
  (hdone:∀listed s a,L listed s a→∀j∈Region.ready md ops listed,j=k)
  (hL:∀N listed s a,listed.getD k true=false→L listed s a→L' N (listed.setIfInBounds k true) s (a.put ok.dst (.pointer (some ⟨N,0,none⟩))))
  (hfin:∀N listed s a w,NewT W B N cs s w→L' N listed s a→wpAny P md ops Q g listed a w) (f:Nat) :
  ∀(listed:Array Bool) (s:Int) (a:Act) (w:World),HeadInv md ops (k+1) listed→k∈Region.ready md ops listed→Trn B s W w→headT P md ops W B E k k L f listed s a→wpAny P md ops Q (f+(g+1)) listed a w:=by
 have halloc:∀f (listed:Array Bool) (s:Int) (a:Act) (w:World),HeadInv md ops (k+1) listed→k∈Region.ready md ops listed→Trn B s W w→headT P md ops W B E k k L f listed s a →
   wpOp P ops Q k (wpAny P md ops Q (f+g) (listed.setIfInBounds k true)) a w:=by
  intro f listed s a w inv hkr hw h
  unfold wpOp
  simp only[hk]
  rw[if_pos (by unfold Region.wanted;rw[hg])]
  refine .inl ?_
  unfold Oper.wp
  rw[hal]
  exact wpAny_of_headT (led_new W B w.heap.size cs hB) (fun listed' s' a' w' hw' h'=>hfin w.heap.size listed' s' a' w' hw' h') f _ _ _ _ (newT_alloc hw)
   (headT_of_headT hk hsel hF hap (fun listed s a hu hl=>hL w.heap.size listed s a hu hl) f listed s a inv hkr h)
 induction f with
 | zero =>
  intro listed s a w inv hkr hw h
  rw[Nat.zero_add]
  refine⟨fun h0=>absurd hkr (by rw[h0];exact List.not_mem_nil),fun i hi => ?_⟩
  obtain rfl:=hdone _ _ _ h i hi
  have:=halloc 0 listed s a w inv hkr hw h
  rwa [Nat.zero_add]at this
 | succ f ih =>
  intro listed s a w inv hkr hw h
  rw[show f+1+(g+1)=(f+(g+1))+1 from by omega]
  refine⟨fun h0=>absurd hkr (by rw[h0];exact List.not_mem_nil),fun i hi => ?_⟩
  by_cases hik:i=k
  ·subst hik
   have:=halloc (f+1) listed s a w inv hkr hw h
   rwa [show f+1+g=f+(g+1)from by omega]at this
  ·obtain⟨hlt,hcop⟩:=h.2 i hi hik
   exact wpOp_of_tOp (led_trn W B) hw (fun s' a' w' hw' h'=>ih _ s' a' w' (inv.set hi (by omega)) (ready_mono hkr (Ne.symm hik)) hw' h') hcop
end
def reachB (md:Region.Mode) (ops:Array Oper):Nat→Nat→Nat→Bool
 | 0,_,_=>false
 | f+1,j,i=>Region.waitsFor md ops j i||(List.range j).any fun m=>Region.waitsFor md ops j m&&reachB md ops f m i
section
variable {P:Program}{ops:Array Oper}{md:Region.Mode}
theorem waits_some {j i:Nat} (h:Region.waitsFor md ops j i=true):∃oj,ops[j]?=some oj:=by
 obtain⟨oj,hj,_⟩:=Region.waitsFor_spec h
 exact⟨oj,hj⟩
theorem reach_some {f j i:Nat} (h:reachB md ops f j i=true):∃oj,ops[j]?=some oj:=by
 cases f with
 | zero=>cases h
 | succ f =>
  unfold reachB at h
  rw[Bool.or_eq_true]at h
  rcases h with h|h
  ·exact waits_some h
  ·obtain⟨m,_,h2⟩:=List.any_eq_true.1 h
   rw[Bool.and_eq_true]at h2
   exact waits_some h2.1
theorem reach_listed {n:Nat}{listed:Array Bool} (inv:HeadInv md ops n listed):∀(f j i:Nat) (oj:Oper),ops[j]?=some oj→(∀e∈oj.after,Region.binds md e=true→listed.getD e.on false=true)→reachB md ops f j i=true →
  listed.getD i false=true
 | 0,_,_,_,_,_,h=>by cases h
 | f+1,j,i,oj,hj,hall,h=>by
  unfold reachB at h
  rw[Bool.or_eq_true]at h
  have one:∀m,Region.waitsFor md ops j m=true→listed.getD m false=true:=fun m hm=>by
   obtain⟨o,ho,e,he,hb,rfl⟩:=Region.waitsFor_spec hm
   obtain rfl:oj=o:=Option.some.inj (hj.symm.trans ho)
   exact hall e he hb
  rcases h with h|h
  ·exact one i h
  ·obtain⟨m,_,h2⟩:=List.any_eq_true.1 h
   rw[Bool.and_eq_true]at h2
   obtain⟨om,hm⟩:=reach_some h2.2
   exact reach_listed inv f m i om hm (inv.closed m om hm (one m h2.1)) h2.2
def effB (md:Region.Mode) (ops:Array Oper) (E:Nat→Bool):Bool :=
 (List.range ops.size).all fun j => !E j||(List.range j).all fun i => !E i||reachB md ops 8 j i
theorem eff_turn {E:Nat→Bool}{n:Nat} (h:effB md ops E=true) (listed:Array Bool) (inv:HeadInv md ops n listed) (i j:Nat) (hi:E i=true) (hj:E j=true) (hij:i<j) (hu:listed.getD i true=false) :
  j∉Region.ready md ops listed:=by
 intro hr
 obtain⟨_,oj,hoj,hall⟩:=mem_ready.1 hr
 have hjl:j<ops.size:=(Array.getElem?_eq_some_iff.1 hoj).1
 have h1:=List.all_eq_true.1 h j (List.mem_range.2 hjl)
 rw[hj]at h1
 simp only[Bool.not_true,Bool.false_or]at h1
 have h2:=List.all_eq_true.1 h1 i (List.mem_range.2 hij)
 rw[hi]at h2
 simp only[Bool.not_true,Bool.false_or]at h2
 have h3:=reach_listed inv 8 j i oj hoj hall h2
 rw[getD_both hu]at h3
 cases h3
theorem forced_tail {E:Nat→Bool}{n:Nat} (hs:Region.sinkB md ops n=true) (hc:Region.chainB md ops n=true) (hn:n<ops.size) (hE:effB md ops E=true):Forced md ops E n :=
 ⟨fun _ inv i hi hu t ht=>tail_waits hs hc hn inv _ i rfl hi hu t ht,fun listed inv i j hi hj hij hu=>eff_turn hE listed inv i j hi hj hij hu⟩
end
def turnB (ops:Array Oper) (E:Nat→Bool) (n:Nat):Bool:=Region.lexTailB .any ops n&&effB .any ops E
section
variable {P:Program}{Q:Exit→Act→World→Prop}{a:Act}{w:World}{B:Nat}{s:Int}
theorem trn_start (hc:w.cell? ⟨B,0,none⟩=some (.int .i64 s)):Trn B s w { w with drawn:=w.drawn+1} := Trn.of_bel hc ((Below.refl _ _).drew:Below w.heap.size w w.drew)
def Reads (w:World) (B:Nat):Prop:=∀b,b<w.heap.size→∀o,(⟨B,0,none⟩:Addr)≠⟨b,o,none⟩→∀s p,(gt w B s p).cell? ⟨b,o,none⟩=w.cell? ⟨b,o,none⟩
theorem reads (w:World) (B:Nat):Reads w B:=fun _ hb _ hne s p=>(trn_gt w B s p).other hb hne
theorem turn_any {l:List Oper} (E:Nat→Bool) (n:Nat) (hB:turnB l.toArray E n=true) (hc:w.cell? ⟨B,0,none⟩=some (.int .i64 s))
  (h:wpTurn P l.toArray w B E (fun s' a'=>∀w',Trn B s' w w'→wpList P l.toArray Q (l.drop n) a' w') 0 (l.take n) s a) :
  wpAny P .any l.toArray Q l.toArray.size (Array.replicate l.toArray.size false) a { w with drawn:=w.drawn+1} := by
 unfold turnB at hB
 simp only[Region.lexTailB,Bool.and_eq_true,decide_eq_true_eq]at hB
 obtain⟨⟨⟨⟨⟨hsel,hn⟩,hs⟩,hch⟩,hlex⟩,hE⟩:=hB
 have hn':n<l.length:=by simpa using hn
 have htl:(l.take n).length=n:=by simp;omega
 have hdl:(l.drop n).length=l.toArray.size-n:=by simp
 have inv0:HeadInv .any l.toArray n (Array.replicate l.toArray.size false) :=
  ⟨by simp,fun j oj _ hl=>absurd hl (by rw[getD_replicate_false];decide),fun t _ ht=>getD_in (by simpa using ht) (getD_replicate_false _ _)⟩
 have H:=headT_lex (md := .any) (g:=l.toArray.size-n) (k:=n) (x:=l.toArray.size) (n:=n) hsel (forced_tail hs hch hn hE) (Nat.le_refl _) (fun j hj _=>hj) (fun j hj=>by omega)
  (fun listed hq j hj => .inr (seqB_ready hq j hj)) (l.take n) 0 _ s a (fun j hj=>by
  have hj':j<n:=by rw[htl]at hj;exact hj
  simp[hj']) (by simpa using htl) inv0 (by rw[htl];exact hlex) h
 have:=wpAny_of_headT (Q:=Q) (g:=l.toArray.size-n) (led_trn w B) (fun listed s' a' w' hw hL=>by
  have:=wpAny_of_seq (md := .any) (Q':=Q) (l.drop n) n listed a' w' (fun j=>by simp[List.getElem?_drop]) (by rw[hdl];exact hL.1) (hL.2 w' hw)
  rwa [hdl]at this) _ _ _ _ _ (trn_start hc) H
 rw[htl,show n+(l.toArray.size-n)=l.toArray.size by omega]at this
 exact this
theorem turn {id:Nat}{l:List Oper} (E:Nat→Bool) (n:Nat) (hm:P.follows .mixedOrders=true) (hB:turnB l.toArray E n=true) (hc:w.cell? ⟨B,0,none⟩=some (.int .i64 s))
  (h:Reads w B→wpTurn P l.toArray w B E (fun s' a'=>∀w',Trn B s' w w'→wpList P l.toArray Q (l.drop n) a' w') 0 (l.take n) s a):(Code.region id l.toArray true).wp P Q a w :=
 wp_region_any hm (turn_any E n hB hc (h (reads w B)))
def turnNewB (ops:Array Oper) (E:Nat→Bool) (k:Nat):Bool:=newB .any ops k&&effB .any ops E
theorem turn_new_any {l:List Oper} (E:Nat→Bool) (k:Nat) (cs:Array Value) (t:TypeId) (ok:Oper) (hk:l[k]?=some ok) (hB:turnNewB l.toArray E k=true) (hBW:B<w.heap.size) (hc:w.cell? ⟨B,0,none⟩=some (.int .i64 s))
  (hal:∀a w,(execOp (Act.eval a) ok).run P w = .ok (.value (.pointer (some ⟨w.heap.size,0,none⟩))) (w.alloc (.cells cs t)))
  (h:wpTurn P l.toArray w B E (fun s' a'=>∀N w',NewT w B N cs s' w'→wpList P l.toArray Q (l.drop (k+1)) (a'.put ok.dst (.pointer (some ⟨N,0,none⟩))) w') 0 (l.take k) s a) :
  wpAny P .any l.toArray Q l.toArray.size (Array.replicate l.toArray.size false) a { w with drawn:=w.drawn+1} := by
 have hk':l.toArray[k]?=some ok:=by simpa using hk
 unfold turnNewB newB at hB
 simp only[Bool.and_eq_true,decide_eq_true_eq,hk']at hB
 obtain⟨⟨⟨⟨⟨⟨hsel,hn⟩,hs⟩,hch⟩,hlex⟩,⟨hae,hgn⟩,hapB⟩,hE⟩:=hB
 have hap:∀i oi,i<k→l.toArray[i]?=some oi→ok.apart l.toArray oi=true∧∀e∈oi.after,Region.binds .any e=true→e.on≠k:=fun i oi hi hoi=>by
  have h1:=List.all_eq_true.1 hapB i (List.mem_range.2 hi)
  simp only[hoi,Bool.and_eq_true]at h1
  refine⟨h1.1,fun e he hb hek => ?_⟩
  have h2:=Array.all_eq_true'.1 h1.2 e he
  rw[hb,hek]at h2
  simp at h2
 have hn':k+1<l.length:=by simpa using hn
 have htl:(l.take k).length=k:=by simp;omega
 have hdl:(l.drop (k+1)).length=l.toArray.size-(k+1):=by simp
 have inv0:HeadInv .any l.toArray (k+1) (Array.replicate l.toArray.size false) :=
  ⟨by simp,fun j oj _ hl=>absurd hl (by rw[getD_replicate_false];decide),fun t _ ht=>getD_in (by simpa using ht) (getD_replicate_false _ _)⟩
 have hkr:k∈Region.ready .any l.toArray (Array.replicate l.toArray.size false) :=
  mem_ready.2 ⟨getD_in (by simp;omega) (getD_replicate_false _ _),ok,hk',fun e he _=>absurd he (by simp only[Array.isEmpty_iff]at hae;rw[hae];simp)⟩
 have eg:l.toArray.size-k=(l.toArray.size-(k+1))+1:=by omega
 rw[eg]at hlex
 have H:=headT_lex (md := .any) (g:=l.toArray.size-(k+1)+1) (k:=k) (x:=k) (n:=k+1) (W:=w) (B:=B) hsel (forced_tail hs hch hn hE) (by omega) (fun j hj hjk=>by omega) (fun j hj=>by omega)
  (fun listed hq j hj=>by rw[(lexHead_seq hq).1]at hj;exact .inl (by simpa using hj)) (l.take k) 0 _ s a (fun j hj=>by
  have hj':j<k:=by rw[htl]at hj;exact hj
  simp[hj']) (by simpa using htl) inv0 (by rw[htl];exact hlex) h
 have:=wpAny_newT (md := .any) (Q:=Q) (k:=k) (g:=l.toArray.size-(k+1)) (cs:=cs) (t:=t) (W:=w)
  (L':=fun N listed s' a'=>Region.seqB .any l.toArray (l.toArray.size-(k+1)) (k+1) listed=true∧∀w',NewT w B N cs s' w'→wpList P l.toArray Q (l.drop (k+1)) a' w')
  hBW hk' (by simpa using hgn) hal (Region.noSelect_spec hsel) (forced_tail hs hch hn hE) hap (fun listed s' a' hL j hj=>by rw[(lexHead_seq hL.1).1]at hj;simpa using hj)
  (fun N listed s' a' _ hL=>⟨(lexHead_seq hL.1).2,fun w' hw'=>hL.2 N w' hw'⟩)
  (fun N listed s' a' w' hw' hL=>by
   have:=wpAny_of_seq (md := .any) (Q':=Q) (l.drop (k+1)) (k+1) listed a' w' (fun j=>by simp[List.getElem?_drop]) (by rw[hdl];exact hL.1) (hL.2 w' hw')
   rwa [hdl]at this) _ _ _ _ _ inv0 hkr (trn_start hc) H
 rw[htl,show k+(l.toArray.size-(k+1)+1)=l.toArray.size by simp;omega]at this
 exact this
theorem turn_new {id:Nat}{l:List Oper} (E:Nat→Bool) (k:Nat) (cs:Array Value) (t:TypeId) (ok:Oper) (hk:l[k]?=some ok) (hm:P.follows .mixedOrders=true) (hB:turnNewB l.toArray E k=true) (hBW:B<w.heap.size) (hc:w.cell? ⟨B,0,none⟩=some (.int .i64 s))
  (hal:∀a w,(execOp (Act.eval a) ok).run P w = .ok (.value (.pointer (some ⟨w.heap.size,0,none⟩))) (w.alloc (.cells cs t)))
  (h:Reads w B→wpTurn P l.toArray w B E (fun s' a'=>∀N w',NewT w B N cs s' w'→wpList P l.toArray Q (l.drop (k+1)) (a'.put ok.dst (.pointer (some ⟨N,0,none⟩))) w') 0 (l.take k) s a):(Code.region id l.toArray true).wp P Q a w :=
 wp_region_any hm (turn_new_any E k cs t ok hk hB hBW hc hal (h (reads w B)))
theorem wpTurn_pure {ops:Array Oper}{E:Nat→Bool}{Q:Int→Act→Prop}{m:Nat}{o:Oper}{rest:List Oper} (hE:E m=false)
  (h:∀K:Int→Act→Prop,(∀s a,wpTurn P ops w B E Q (m+1) rest s a→K s a)→if Region.wanted o (yielded ops a.tmps)then pOne P o a w B s K else K s (a.put o.dst undef)):wpTurn P ops w B E Q m (o::rest) s a:=by
 unfold wpTurn
 rw[hE]
 exact h _ (fun _ _ h=>h)
theorem wpTurn_eff {ops:Array Oper}{E:Nat→Bool}{Q:Int→Act→Prop}{m:Nat}{o:Oper}{rest:List Oper} (hE:E m=true)
  (h:∀K:Int→Act→Prop,(∀s a,wpTurn P ops w B E Q (m+1) rest s a→K s a)→if Region.wanted o (yielded ops a.tmps)then tOne P o a w B s K else K s (a.put o.dst undef)):wpTurn P ops w B E Q m (o::rest) s a:=by
 unfold wpTurn
 rw[hE]
 exact h _ (fun _ _ h=>h)
theorem wpTurn_nil {ops:Array Oper}{E:Nat→Bool}{Q:Int→Act→Prop}{m:Nat} (h:Q s a):wpTurn P ops w B E Q m [] s a:=h
end
attribute [go_sem] pOne tOne pAt tAt tUpon
end Go.Proofs.YticobgianbecpaaGreatDoor
