/- Regions that draw their order: quiet operations, then a tail that does not wait for two moves of a variable. -/
import Derived.Test.YticobgianbecpaaGreatDoorKCalm
import Derived.Laws.AppendOwn
namespace Go.Proofs.YticobgianbecpaaGreatDoor
open Go Go.Sort Go.RowKit
section
variable {P:Program}{Q:Exit→Act→World→Prop}{l:List Oper}{s p:Nat}{os:Oper}
def lateM (md:Region.Mode) (l:List Oper) (s p:Nat):Bool :=
 Region.noSelect l.toArray&&decide (p≠s) &&
 match l[p]?,l[s]? with
 | some op,some os =>
  op.guard.isNone&&(match op.op with | .move .. => true|_=>false) &&
  (op.after.all fun e => !Region.binds md e||os.after.any fun e'=>Region.binds md e'&&e'.on==e.on) &&
  (List.range l.length).all fun j=>match l[j]? with
   | some oj=>j==p||op.apart l.toArray oj||(oj.after.any fun e=>Region.binds md e&&e.on==p)||op.after.any fun e=>Region.binds md e&&e.on==j
   | none=>true
 | _,_=>false
theorem move_yields {ops:Array Oper}{op:Oper}{x:Operand}{i:Nat}{a:Act}{w:World}{K:Act→World→Prop} (hi:ops[i]?=some op) (hx:op.op = .move x) (hg:op.guard=none) (h:wpOp P ops Q i K a w) :
  ∃v,Yields P ops op v a∧K (a.put op.dst v) w:=by
 have hw:Region.wanted op (yielded ops a.tmps)=true:=by unfold Region.wanted;rw[hg]
 unfold wpOp at h
 simp only[hi,hw,if_true]at h
 have hr:∀w,(execOp a.eval op).run P w = .ok (.value (a.eval x)) w:=fun w=>by unfold execOp;rw[hx];rfl
 refine⟨a.eval x,.inl ⟨hw,hr⟩,?_⟩
 rcases h with h|⟨ha,_⟩
 ·unfold Oper.wp at h;rw[hr w]at h;exact h
 ·unfold Oper.asks at ha
  have e0:execOp a.eval op=pure (.value (a.eval x)):=by unfold execOp;rw[hx]
  rw[e0]at ha
  have hm:noRoomEvent∈(#[]:Array Event):=ha.1
  exact absurd hm (by simp)
theorem wpAny_move {op:Oper} (hs:l[s]?=some os) (hp:l[p]?=some op) (hB:lateM .any l s p=true) (hQ:∀c a v w,Q (.panic c) (a.put op.dst v) w→Q (.panic c) a w) (f:Nat) :
  ∀(listed:Array Bool) (a:Act) (w:World),listed.size=l.length→wpAny P .any (l.set s (waiting os p)).toArray Q f listed a w→wpAny P .any l.toArray Q f listed a w:=by
 unfold lateM at hB
 simp only[Bool.and_eq_true,decide_eq_true_eq]at hB
 obtain⟨⟨hsel,hps⟩,hB⟩:=hB
 rw[hs]at hB
 rw[hp]at hB
 simp only[Bool.and_eq_true]at hB
 obtain⟨⟨⟨hg,hx⟩,hdep⟩,hap⟩:=hB
 have hg':op.guard=none:=by simpa using hg
 obtain⟨x,hx'⟩:∃x,op.op = .move x:=by
  cases ho:op.op<;>rw[ho]at hx<;>first|exact⟨_,rfl⟩|(simp at hx)
 have hp':l.toArray[p]?=some op:=by simpa using hp
 have hpS:(l.set s (waiting os p)).toArray[p]?=some op:=by simp only[List.getElem?_toArray,get_set hs];rw[if_neg hps];exact hp
 have hpr:∀(listed:Array Bool),listed.size=l.length→s∈Region.ready .any l.toArray listed→listed.getD p false=false→p∈Region.ready .any l.toArray listed:=by
  intro listed hsz hr hu
  obtain⟨_,o,ho,hall⟩:=mem_ready.1 hr
  have:os=o:=Option.some.inj (hs.symm.trans (by simpa using ho))
  subst this
  have hpl:p<l.length:=(List.getElem?_eq_some_iff.1 hp).1
  refine mem_ready.2 ⟨getD_in (by omega) hu,op,hp',fun e he hb => ?_⟩
  have h1:=Array.all_eq_true'.1 hdep e he
  rw[hb]at h1
  simp only[Bool.not_true,Bool.false_or]at h1
  obtain⟨e',he',h2⟩:=Array.any_eq_true'.1 h1
  simp only[Bool.and_eq_true,beq_iff_eq]at h2
  rw[← h2.2]
  exact hall e' he' h2.1
 induction f with
 | zero =>
  intro listed a w hsz h
  refine⟨?_,h.2⟩
  rw[List.eq_nil_iff_forall_not_mem]
  intro i hi
  by_cases hd:i=s∧listed.getD p false=false
  ·obtain⟨rfl,hu⟩:=hd
   have:=ready_set (p:=p) hs (hpr listed hsz hi hu) (fun e=>absurd e hps)
   rw[h.1]at this
   exact absurd this List.not_mem_nil
  ·have:=ready_set (p:=p) hs hi (fun e=>by
    cases hv:listed.getD p false with
    | true=>rfl
    | false=>exact absurd ⟨e,hv⟩ hd)
   rw[h.1]at this
   exact absurd this List.not_mem_nil
 | succ f ih =>
  intro listed a w hsz h
  by_cases hpready:p∈Region.ready .any l.toArray listed
  ·have hS:=ready_set (p:=p) hs hpready (fun e=>absurd e hps)
   obtain⟨v,hy,hK⟩:=move_yields hpS hx' hg' (h.2 p hS)
   have hy':Yields P l.toArray op v a:=by
    unfold Yields at *
    rw[yielded_set hs]at hy
    exact hy
   obtain⟨_,o,ho,hdeps⟩:=mem_ready.1 hpready
   have:op=o:=Option.some.inj (hp'.symm.trans ho)
   subst this
   refine wpAny_first hp' (Region.noSelect_spec hsel) (fun c a w hq=>hQ c a v w hq) f listed a w (fun j oj hj hjp hju hno => ?_) hpready hy' (ih _ _ _ (by simpa using hsz) hK)
   have hjl:j<l.length:=by have:=(Array.getElem?_eq_some_iff.1 hj).1;simpa using this
   have h1:=List.all_eq_true.1 hap j (List.mem_range.2 hjl)
   rw[show l[j]?=some oj from by simpa using hj]at h1
   simp only[Bool.or_eq_true,beq_iff_eq]at h1
   rcases h1 with((h1|h1)|h1)|h1
   ·exact absurd h1 hjp
   ·exact h1
   ·obtain⟨e,he,h2⟩:=Array.any_eq_true'.1 h1
    simp only[Bool.and_eq_true,beq_iff_eq]at h2
    exact absurd h2.2 (hno e he h2.1)
   ·obtain⟨e,he,h2⟩:=Array.any_eq_true'.1 h1
    simp only[Bool.and_eq_true,beq_iff_eq]at h2
    have h3:=hdeps e he h2.1
    rw[h2.2,getD_both hju]at h3
    exact absurd h3 (by decide)
  ·have hgo:∀i,i∈Region.ready .any l.toArray listed→i∈Region.ready .any (l.set s (waiting os p)).toArray listed:=fun i hi=>ready_set (p:=p) hs hi (fun e=>by
    cases hv:listed.getD p false with
    | true=>rfl
    | false=>subst e;exact absurd (hpr listed hsz hi hv) hpready)
   refine⟨fun h0=>h.1 ?_,fun i hi=>wpOp_set hs (wpOp_mono (fun a' w' h'=>ih _ a' w' (by simpa using hsz) h') (h.2 i (hgo i hi)))⟩
   rw[List.eq_nil_iff_forall_not_mem]
   intro i hi
   have:=ready_of_set hs hi
   rw[h0]at this
   exact absurd this List.not_mem_nil
theorem drop_set_head (hs:l[s]?=some os) (o:Oper):l.drop s=os::l.drop (s+1)∧(l.set s o).drop s=o::l.drop (s+1):=by
 have hl:s<l.length:=(List.getElem?_eq_some_iff.1 hs).1
 have he:l[s]=os:=(List.getElem?_eq_some_iff.1 hs).2
 refine⟨by rw[List.drop_eq_getElem_cons hl,he],?_⟩
 have hl':s<(l.set s o).length:=by simpa using hl
 rw[List.drop_eq_getElem_cons hl']
 congr 1
 ·simp
 ·rw[List.drop_set_of_lt (by omega)]
theorem wpList_wait (hs:l[s]?=some os){a:Act}{w:World} (h:wpList P l.toArray Q (l.drop s) a w):wpList P (l.set s (waiting os p)).toArray Q ((l.set s (waiting os p)).drop s) a w:=by
 obtain⟨e1,e2⟩:=drop_set_head hs (waiting os p)
 rw[e2]
 rw[e1]at h
 exact wpList_head hs h
end
theorem calm_moves {P:Program}{id:Nat}{Q:Exit→Act→World→Prop}{a:Act}{w:World}{l:List Oper} (n p q:Nat) (os op oq:Oper) (hs:l[n]?=some os) (hp:l[p]?=some op) (hq:(l.set n (waiting os p))[q]?=some oq) (hs2:(l.set n (waiting os p))[n]?=some (waiting os p)) (hm:P.follows .mixedOrders=true)
  (hB:Region.lexTailB .any ((l.set n (waiting os p)).set n (waiting (waiting os p) q)).toArray n=true) (hL:lateM .any l n p=true) (hL2:lateM .any (l.set n (waiting os p)) n q=true)
  (hQ:∀c a v w,Q (.panic c) (a.put op.dst v) w→Q (.panic c) a w) (hQ2:∀c a v w,Q (.panic c) (a.put oq.dst v) w→Q (.panic c) a w)
  (h:(∀b,b<w.heap.size→∀d os o,(grow (redrawn w d) os).cell? ⟨b,o,none⟩=w.cell? ⟨b,o,none⟩) →
   wpQuiet P l.toArray (fun w'=>∃p:Regrown,w'=grow (redrawn w p.d) p.os) (fun a'=>∀w',Below w.heap.size w w'→wpList P l.toArray Q (l.drop n) a' w') (l.take n) a):(Code.region id l.toArray true).wp P Q a w:=by
 have h:=h fun b hb d os o=>(below_regrown w d os).cell (p:=⟨b,o,none⟩) hb
 refine wp_region_any hm ?_
 have hsz:((l.set n (waiting os p)).set n (waiting (waiting os p) q)).toArray.size=l.toArray.size:=by simp
 have:=wpAny_calm (P:=P) (Q:=Q) (a:=a) (w:=w) (C:=fun w'=>∃p:Regrown,w'=grow (redrawn w p.d) p.os) (l:=(l.set n (waiting os p)).set n (waiting (waiting os p) q)) n hB ⟨⟨w.drawn+1,#[]⟩,by rw[grow_empty];rfl⟩ (by
  rw[List.take_set_of_le (by omega),List.take_set_of_le (by omega)]
  have h1:wpQuiet P (l.set n (waiting os p)).toArray (fun w'=>∃p:Regrown,w'=grow (redrawn w p.d) p.os) (fun a'=>∀w',(∃p:Regrown,w'=grow (redrawn w p.d) p.os)→wpList P (l.set n (waiting os p)).toArray Q ((l.set n (waiting os p)).drop n) a' w') (l.take n) a :=
   wpQuiet_set hs (fun a' hh w' hw'=>by
    obtain⟨p',rfl⟩:=hw'
    exact wpList_wait hs (hh _ (below_regrown w p'.d p'.os))) _ _ h
  exact wpQuiet_set hs2 (fun a' hh w' hw'=>wpList_wait hs2 (hh w' hw')) _ _ h1)
 rw[hsz]at this
 have h1:=wpAny_move hs2 hq hL2 hQ2 _ _ _ _ (by simp) this
 exact wpAny_move hs hp hL hQ _ _ _ _ (by simp) h1
theorem hG_at {W:World} (_hG:∀b,b<W.heap.size→∀d os o,(grow (redrawn W d) os).cell? ⟨b,o,none⟩=W.cell? ⟨b,o,none⟩){p:Addr}{v:Value} (h:W.cell? p=some v):∀d os,(grow (redrawn W d) os).cell? p=some v :=
 fun d os=>((below_regrown W d os).cell (World.block_lt_of_cell? W _ h)).trans h
theorem grown_of_bel {w w':World} (h:Below w.heap.size w w') (row:Option Nat):w.grownBy w' row:=⟨h.os,h.tape,h.output,h.size,fun k hk _=>h.block k hk⟩
end Go.Proofs.YticobgianbecpaaGreatDoor
