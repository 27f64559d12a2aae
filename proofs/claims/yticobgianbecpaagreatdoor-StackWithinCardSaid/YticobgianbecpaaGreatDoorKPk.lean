/- Joined: CalmInv RegVals Pick. -/
import Derived.Test.YticobgianbecpaaGreatDoorKCalm
import Derived.Test.YticobgianbecpaaGreatDoorKFit
/- Regions that draw their order: a law by an invariant. Each operation is shown once, for whatever is done when its turn comes. -/
namespace Go.Proofs.YticobgianbecpaaGreatDoor
open Go Go.Sort Go.RowKit

section
variable {P : Program} {ops : Array Oper} {Q : Exit → Act → World → Prop}
/-- Each operation waits for earlier ones only. -/
def backB (ops : Array Oper) : Bool :=
  (List.range ops.size).all fun j => match ops[j]? with
    | some o => o.after.all fun e => !Region.binds .any e || decide (e.on < j)
    | none => true
theorem getD_false {l : Array Bool} {k n : Nat} (hs : l.size = n) (hk : k < n) (h : l.getD k false = false) : l.getD k true = false := by
  rw [Array.getD_eq_getD_getElem?] at h ⊢
  rw [Array.getElem?_eq_getElem (show k < l.size by omega)] at h ⊢
  exact h
theorem ready_some (hB : backB ops = true) {listed : Array Bool} (hs : listed.size = ops.size) : ∀ j, j < ops.size → listed.getD j true = false → Region.ready .any ops listed ≠ [] := by
  intro j
  induction j using Nat.strongRecOn with
  | ind j ih =>
    intro hj hl
    have ho : ops[j]? = some ops[j] := Array.getElem?_eq_getElem hj
    have hb := List.all_eq_true.1 hB j (List.mem_range.2 hj)
    rw [ho] at hb
    by_cases h : ∀ e ∈ (ops[j]).after, Region.binds .any e = true → listed.getD e.on false = true
    · intro h0
      have : j ∈ Region.ready .any ops listed := mem_ready.2 ⟨hl, _, ho, h⟩
      rw [h0] at this
      exact absurd this List.not_mem_nil
    · obtain ⟨e, he⟩ := Classical.not_forall.1 h
      obtain ⟨hm, he⟩ := Classical.not_imp.1 he
      obtain ⟨hb2, hf⟩ := Classical.not_imp.1 he
      have h1 := Array.all_eq_true'.1 hb e hm
      rw [hb2] at h1
      simp only [Bool.not_true, Bool.false_or, decide_eq_true_eq] at h1
      exact ih e.on h1 (by omega) (getD_false hs (by omega) (by simpa using hf))
/-- THE LAW. -/
theorem wpAny_inv (I : Array Bool → Act → World → Prop) (hB : backB ops = true)
    (step : ∀ (listed : Array Bool) (a : Act) (w : World) (i : Nat) (o : Oper), listed.size = ops.size → I listed a w → ops[i]? = some o → listed.getD i true = false → (∀ e ∈ o.after, Region.binds .any e = true → listed.getD e.on false = true) →
      wpOp P ops Q i (I (listed.setIfInBounds i true)) a w)
    (last : ∀ (listed : Array Bool) (a : Act) (w : World), listed.size = ops.size → (∀ j, j < ops.size → listed.getD j true = true) → I listed a w → Q .normal a w) :
    ∀ (f : Nat) (listed : Array Bool) (a : Act) (w : World) (l : List Nat), listed.size = ops.size → l.length ≤ f → (∀ j, j < ops.size → listed.getD j true = false → j ∈ l) → I listed a w → wpAny P .any ops Q f listed a w := by
  have fin : ∀ (listed : Array Bool) (a : Act) (w : World), listed.size = ops.size → Region.ready .any ops listed = [] → I listed a w → Q .normal a w := fun listed a w hs h0 hI => by
    refine last listed a w hs (fun j hj => ?_) hI
    cases h : listed.getD j true with
    | true => rfl
    | false => exact absurd h0 (ready_some hB hs j hj h)
  intro f
  induction f with
  | zero =>
    intro listed a w l hs hl hm hI
    have h0 : Region.ready .any ops listed = [] := by
      rw [List.eq_nil_iff_forall_not_mem]
      intro i hi
      obtain ⟨h1, o, ho, _⟩ := mem_ready.1 hi
      have := hm i (Array.getElem?_eq_some_iff.1 ho).1 h1
      have e : l = [] := List.eq_nil_of_length_eq_zero (by omega)
      rw [e] at this
      exact absurd this List.not_mem_nil
    exact ⟨h0, fin listed a w hs h0 hI⟩
  | succ f ih =>
    intro listed a w l hs hl hm hI
    refine ⟨fun h0 => fin listed a w hs h0 hI, fun i hi => ?_⟩
    obtain ⟨h1, o, ho, h2⟩ := mem_ready.1 hi
    have hin : i < ops.size := (Array.getElem?_eq_some_iff.1 ho).1
    have hil := hm i hin h1
    refine wpOp_mono (fun a' w' h' => ih _ a' w' (l.erase i) (by simpa using hs) (by rw [List.length_erase_of_mem hil]; omega) (fun j hj hjl => ?_) h') (step listed a w i o hs hI ho h1 h2)
    have hne : j ≠ i := fun e => by
      subst e
      rw [Array.getD_eq_getD_getElem?, Array.getElem?_setIfInBounds_self_of_lt (by omega)] at hjl
      exact absurd hjl (by decide)
    refine (List.mem_erase_of_ne hne).2 (hm j hj ?_)
    rw [Array.getD_eq_getD_getElem?, Array.getElem?_setIfInBounds_ne (fun e => hne e.symm), ← Array.getD_eq_getD_getElem?] at hjl
    exact hjl
theorem wp_region_inv {id : Nat} {a : Act} {w : World} (I : Array Bool → Act → World → Prop) (hm : P.follows .mixedOrders = true) (hB : backB ops = true)
    (start : I (Array.replicate ops.size false) a { w with drawn := w.drawn + 1 })
    (step : ∀ (listed : Array Bool) (a : Act) (w : World) (i : Nat) (o : Oper), listed.size = ops.size → I listed a w → ops[i]? = some o → listed.getD i true = false → (∀ e ∈ o.after, Region.binds .any e = true → listed.getD e.on false = true) →
      wpOp P ops Q i (I (listed.setIfInBounds i true)) a w)
    (last : ∀ (listed : Array Bool) (a : Act) (w : World), listed.size = ops.size → (∀ j, j < ops.size → listed.getD j true = true) → I listed a w → Q .normal a w) : (Code.region id ops true).wp P Q a w :=
  wp_region_any hm (wpAny_inv I hB step last _ _ _ _ (List.range ops.size) (by simp) (by simp) (fun j hj _ => List.mem_range.2 hj) start)
/-- No two operations yield into one slot. -/
def dstsB (ops : Array Oper) : Bool :=
  (List.range ops.size).all fun j => (List.range ops.size).all fun k => j == k || match ops[j]?, ops[k]? with
    | some o, some o' => match o.dst with
      | some d => !(o'.dst == some d)
      | none => true
    | _, _ => true
theorem dst_one (h : dstsB ops = true) {j k : Nat} {o o' : Oper} {d : Tmp} (hj : ops[j]? = some o) (hk : ops[k]? = some o') (dj : o.dst = some d) (dk : o'.dst = some d) : j = k := by
  have h1 := List.all_eq_true.1 h j (List.mem_range.2 (Array.getElem?_eq_some_iff.1 hj).1)
  have h2 := List.all_eq_true.1 h1 k (List.mem_range.2 (Array.getElem?_eq_some_iff.1 hk).1)
  rw [hj, hk] at h2
  simp only [dj, dk, beq_self_eq_true, Bool.not_true, Bool.or_false, beq_iff_eq] at h2
  exact h2
/-- The slots: those of the operations that are done hold their values, the others what they held. -/
structure Sl (ops : Array Oper) (V : Nat → Value) (a0 : Act) (listed : Array Bool) (a : Act) : Prop where
  defers : a.defers = a0.defers
  size : a.tmps.size = a0.tmps.size
  new : ∀ (j : Nat) (o : Oper) (d : Tmp), ops[j]? = some o → o.dst = some d → listed.getD j false = true → d < a.tmps.size → a.tmps[d]? = some (V j)
  old : ∀ (d : Tmp), (∀ (j : Nat) (o : Oper), ops[j]? = some o → o.dst = some d → listed.getD j false = false) → a.tmps[d]? = a0.tmps[d]?
theorem Sl.start (V : Nat → Value) (a0 : Act) : Sl ops V a0 (Array.replicate ops.size false) a0 :=
  ⟨rfl, rfl, fun j o d hj _ hl _ => by rw [getD_replicate_false] at hl; exact absurd hl (by decide), fun _ _ => rfl⟩
theorem Sl.cast {V V' : Nat → Value} {a0 a : Act} {listed : Array Bool} (h : Sl ops V a0 listed a) (k : ∀ j, listed.getD j false = true → V j = V' j) : Sl ops V' a0 listed a :=
  ⟨h.defers, h.size, fun j o d hj hd hl hs => by rw [← k j hl]; exact h.new j o d hj hd hl hs, h.old⟩
theorem Sl.put {V : Nat → Value} {a0 a : Act} {listed : Array Bool} {i : Nat} {o : Oper} (hB : dstsB ops = true) (hs : listed.size = ops.size) (h : Sl ops V a0 listed a) (hi : ops[i]? = some o) : Sl ops V a0 (listed.setIfInBounds i true) (a.put o.dst (V i)) := by
  have hin : i < listed.size := by rw [hs]; exact (Array.getElem?_eq_some_iff.1 hi).1
  have get : ∀ j, (listed.setIfInBounds i true).getD j false = if j = i then true else listed.getD j false := fun j => by
    by_cases e : j = i
    · subst e
      rw [if_pos rfl, Array.getD_eq_getD_getElem?, Array.getElem?_setIfInBounds_self_of_lt hin]
      rfl
    · rw [if_neg e, Array.getD_eq_getD_getElem?, Array.getElem?_setIfInBounds_ne (fun k => e k.symm), ← Array.getD_eq_getD_getElem?]
  cases hd : o.dst with
  | none =>
    show Sl ops V a0 _ a
    refine ⟨h.defers, h.size, fun j o' d hj hd' hl hz => ?_, fun d hn => h.old d fun j o' hj hd' => ?_⟩
    · rw [get] at hl
      by_cases e : j = i
      · subst e
        obtain rfl : o' = o := Option.some.inj (hj.symm.trans hi)
        rw [hd] at hd'
        cases hd'
      · rw [if_neg e] at hl
        exact h.new j o' d hj hd' hl hz
    · have := hn j o' hj hd'
      rw [get] at this
      by_cases e : j = i
      · rw [if_pos e] at this; exact absurd this (by decide)
      · rw [if_neg e] at this; exact this
  | some d0 =>
    refine ⟨h.defers, by simp [Act.put, h.size], fun j o' d hj hd' hl hz => ?_, fun d hn => ?_⟩
    · rw [get] at hl
      by_cases e : j = i
      · subst e
        obtain rfl : o' = o := Option.some.inj (hj.symm.trans hi)
        obtain rfl : d0 = d := Option.some.inj (hd.symm.trans hd')
        simp only [Act.put]
        rw [Array.getElem?_setIfInBounds_self_of_lt (by simpa [Act.put] using hz)]
      · rw [if_neg e] at hl
        have ne : d0 ≠ d := fun k => by subst k; exact e (dst_one hB hj hi hd' hd)
        simp only [Act.put]
        rw [Array.getElem?_setIfInBounds_ne ne]
        exact h.new j o' d hj hd' hl (by simpa [Act.put] using hz)
    · have ne : d0 ≠ d := fun k => by
        subst k
        have := hn i o hi hd
        rw [get, if_pos rfl] at this
        exact absurd this (by decide)
      simp only [Act.put]
      rw [Array.getElem?_setIfInBounds_ne ne]
      refine h.old d fun j o' hj hd' => ?_
      have := hn j o' hj hd'
      rw [get] at this
      by_cases e : j = i
      · rw [if_pos e] at this; exact absurd this (by decide)
      · rw [if_neg e] at this; exact this
theorem Sl.eval {V : Nat → Value} {a0 a : Act} {listed : Array Bool} (h : Sl ops V a0 listed a) {j : Nat} {o : Oper} {d : Tmp} (hj : ops[j]? = some o) (hd : o.dst = some d) (hl : listed.getD j false = true) (hz : d < a0.tmps.size) : a.eval (.tmp d) = V j := by
  show a.tmps.getD d undef = _
  rw [Array.getD_eq_getD_getElem?, h.new j o d hj hd hl (by rw [h.size]; exact hz)]
  rfl
theorem Sl.keep {V : Nat → Value} {a0 a : Act} {listed : Array Bool} (h : Sl ops V a0 listed a) {d : Tmp} (hn : (ops.all fun o => !(o.dst == some d)) = true) : a.eval (.tmp d) = a0.eval (.tmp d) := by
  show a.tmps.getD d undef = a0.tmps.getD d undef
  rw [Array.getD_eq_getD_getElem?, Array.getD_eq_getD_getElem?, h.old d fun j o hj hd => ?_]
  have h1 := Array.all_eq_true'.1 hn o (Array.mem_of_getElem? hj)
  rw [hd] at h1
  simp at h1
theorem Sl.same {V : Nat → Value} {a0 a b : Act} {listed : Array Bool} (h : Sl ops V a0 listed a) (k : Sl ops V a0 listed b) : a = b := by
  obtain ⟨ta, da⟩ := a
  obtain ⟨tb, db⟩ := b
  have e1 : da = db := h.defers.trans k.defers.symm
  have e2 : ta = tb := by
    apply Array.ext_getElem?
    intro d
    have s1 : ta.size = a0.tmps.size := h.size
    have s2 : tb.size = a0.tmps.size := k.size
    by_cases hz : d < a0.tmps.size
    · rcases Classical.em (∃ (j : Nat) (o : Oper), ops[j]? = some o ∧ o.dst = some d ∧ listed.getD j false = true) with ⟨j, o, hj, hd, hl⟩ | hn
      · exact (h.new j o d hj hd hl (by show d < ta.size; omega)).trans (k.new j o d hj hd hl (by show d < tb.size; omega)).symm
      · have hn' : ∀ (j : Nat) (o : Oper), ops[j]? = some o → o.dst = some d → listed.getD j false = false := fun j o hj hd => by
          cases hl : listed.getD j false with
          | false => rfl
          | true => exact absurd ⟨j, o, hj, hd, hl⟩ hn
        exact (h.old d hn').trans (k.old d hn').symm
    · rw [Array.getElem?_eq_none (by omega), Array.getElem?_eq_none (by omega)]
  rw [e1, e2]
/-- All operations' values, put one after the other. -/
def putAll (ops : Array Oper) (V : Nat → Value) (a0 : Act) : Nat → Act
  | 0 => a0
  | k + 1 => match ops[k]? with
    | some o => (putAll ops V a0 k).put o.dst (V k)
    | none => putAll ops V a0 k
theorem Sl.run {V : Nat → Value} {a0 : Act} (hB : dstsB ops = true) : ∀ k, k ≤ ops.size → ∃ L : Array Bool, L.size = ops.size ∧ (∀ j, j < k → L[j]? = some true) ∧ Sl ops V a0 L (putAll ops V a0 k)
  | 0, _ => ⟨Array.replicate ops.size false, by simp, fun j hj => absurd hj (by omega), Sl.start V a0⟩
  | k + 1, hk => by
    obtain ⟨L, h1, h2, h3⟩ := Sl.run (V := V) (a0 := a0) hB k (by omega)
    have ho : ops[k]? = some ops[k] := Array.getElem?_eq_getElem (by omega)
    refine ⟨L.setIfInBounds k true, by simpa using h1, fun j hj => ?_, ?_⟩
    · by_cases e : j = k
      · subst e
        rw [Array.getElem?_setIfInBounds_self_of_lt (by omega)]
      · rw [Array.getElem?_setIfInBounds_ne (fun x => e x.symm)]
        exact h2 j (by omega)
    · unfold putAll
      rw [ho]
      exact h3.put hB h1 ho
theorem Sl.done {V : Nat → Value} {a0 a : Act} {listed : Array Bool} (hB : dstsB ops = true) (hs : listed.size = ops.size) (full : ∀ j, j < ops.size → listed.getD j true = true) (h : Sl ops V a0 listed a) : a = putAll ops V a0 ops.size := by
  obtain ⟨L, h1, h2, h3⟩ := Sl.run (V := V) (a0 := a0) hB ops.size (Nat.le_refl _)
  have e : L = listed := by
    apply Array.ext_getElem?
    intro j
    by_cases hj : j < ops.size
    · rw [h2 j hj]
      have := full j hj
      rw [Array.getD_eq_getD_getElem?, Array.getElem?_eq_getElem (show j < listed.size by omega)] at this
      rw [Array.getElem?_eq_getElem (show j < listed.size by omega)]
      exact congrArg some this.symm
    · rw [Array.getElem?_eq_none (by omega), Array.getElem?_eq_none (by omega)]
  subst e
  exact h.same h3
/-- An operation that yields its value in the world at hand, which stands. -/
theorem inv_value {P : Program} {Q : Exit → Act → World → Prop} {i : Nat} {o : Oper} {a : Act} {w : World} {v : Value} {K : Act → World → Prop} (hi : ops[i]? = some o) (hg : o.guard = none) (hr : (execOp a.eval o).run P w = .ok (.value v) w) (hK : K (a.put o.dst v) w) : wpOp P ops Q i K a w := by
  have hw : Region.wanted o (yielded ops a.tmps) = true := by unfold Region.wanted; rw [hg]
  unfold wpOp
  simp only [hi, hw, if_true]
  refine .inl ?_
  unfold Oper.wp
  rw [hr]
  exact hK
/-- An operation, as the walk shows it. -/
theorem inv_wp {P : Program} {Q : Exit → Act → World → Prop} {i : Nat} {o : Oper} {a : Act} {w : World} {K : Act → World → Prop} (hi : ops[i]? = some o) (hg : o.guard = none) (h : o.wp P a w K Q) : wpOp P ops Q i K a w := by
  have hw : Region.wanted o (yielded ops a.tmps) = true := by unfold Region.wanted; rw [hg]
  unfold wpOp
  simp only [hi, hw, if_true]
  exact .inl h
end
end Go.Proofs.YticobgianbecpaaGreatDoor
/- Regions that draw their order, where each operation yields one value: a law by an invariant of the world alone. -/
namespace Go.Proofs.YticobgianbecpaaGreatDoor
open Go Go.Sort Go.RowKit

theorem dep_of {o : Oper} {L : Array Bool} (hw : ∀ e ∈ o.after, Region.binds .any e = true → L.getD e.on false = true) (j : Nat) (h : (o.after.any fun e => Region.binds .any e && e.on == j) = true) : L.getD j false = true := by
  obtain ⟨e, he, h2⟩ := Array.any_eq_true'.1 h
  simp only [Bool.and_eq_true, beq_iff_eq] at h2
  rw [← h2.2]
  exact hw e he h2.1
theorem getD_set {L : Array Bool} {i j n : Nat} (hs : L.size = n) (hi : i < n) (b : Bool) : (L.setIfInBounds i true).getD j b = if j = i then true else L.getD j b := by
  by_cases e : j = i
  · subst e
    rw [if_pos rfl, Array.getD_eq_getD_getElem?, Array.getElem?_setIfInBounds_self_of_lt (by omega)]
    rfl
  · rw [if_neg e, Array.getD_eq_getD_getElem?, Array.getElem?_setIfInBounds_ne (fun k => e k.symm), ← Array.getD_eq_getD_getElem?]
theorem region_vals {P : Program} {ops : Array Oper} {Q : Exit → Act → World → Prop} {id : Nat} {a0 : Act} {w : World} (V : Nat → Value) (F : Array Bool → World → Prop) (hm : P.follows .mixedOrders = true) (hB : backB ops = true) (hD : dstsB ops = true)
    (hG : (ops.all fun o => o.guard.isNone) = true) (start : F (Array.replicate ops.size false) { w with drawn := w.drawn + 1 })
    (step : ∀ (L : Array Bool) (a : Act) (w : World) (i : Nat) (o : Oper), L.size = ops.size → F L w → Sl ops V a0 L a → ops[i]? = some o → L.getD i true = false → (∀ e ∈ o.after, Region.binds .any e = true → L.getD e.on false = true) →
      ((execOp a.eval o).run P w = .ok (.value (V i)) w ∧ F (L.setIfInBounds i true) w) ∨ o.wp P a w (fun a' w' => a' = a.put o.dst (V i) ∧ F (L.setIfInBounds i true) w') Q)
    (last : ∀ (L : Array Bool) (w : World), L.size = ops.size → (∀ j, j < ops.size → L.getD j true = true) → F L w → Q .normal (putAll ops V a0 ops.size) w) : (Code.region id ops true).wp P Q a0 w := by
  refine wp_region_inv (fun L a w => F L w ∧ Sl ops V a0 L a) hm hB ⟨start, Sl.start V a0⟩ (fun L a w i o hs hI ho hl hw => ?_) (fun L a w hs hall hI => ?_)
  · have hg : o.guard = none := by
      have := Array.all_eq_true'.1 hG o (Array.mem_of_getElem? ho)
      simpa using this
    rcases step L a w i o hs hI.1 hI.2 ho hl hw with ⟨h1, h2⟩ | h
    · exact inv_value ho hg h1 ⟨h2, hI.2.put hD hs ho⟩
    · refine inv_wp ho hg (Oper.wp_mono (fun a' w' h' => ?_) h)
      obtain ⟨rfl, h'⟩ := h'
      exact ⟨h', hI.2.put hD hs ho⟩
  · have e := hI.2.done hD hs hall
    rw [e]
    exact last L w hs hall hI.1
/-- Both worlds' cells turn. -/
theorem bl_both {N : Nat} {w w' : World} (h : Below N w w') {p : Addr} (v : Value) : Below N (w.setCell p v) (w'.setCell p v) := by
  refine ⟨h.os, h.tape, h.output, by simpa using h.size, fun k hk => ?_⟩
  have := h.block k hk
  simp only [World.setCell, Array.getElem?_modify, this]
end Go.Proofs.YticobgianbecpaaGreatDoor
/- StackWithin: one round's region, in whatever order it is done. -/
namespace Go.Proofs.YticobgianbecpaaGreatDoor
open Go Go.Sort Go.RowKit

/-- The operations of a region, by its number. -/
def regAt : Code → Nat → Option (Array Oper)
  | .region i ops _, n => if i = n then some ops else none
  | .seq a b, n => match regAt a n with
    | some x => some x
    | none => regAt b n
  | .cond _ a b, n => match regAt a n with
    | some x => some x
    | none => regAt b n
  | .block _ a, n => regAt a n
  | .loop a, n => regAt a n
  | .scope a, n => regAt a n
  | _, _ => none
def opAt : List Oper → Nat → Option Oper
  | [], _ => none
  | o :: _, 0 => some o
  | _ :: l, n + 1 => opAt l n
theorem opAt_is : ∀ (l : List Oper) (n : Nat), opAt l n = l[n]?
  | [], n => by simp [opAt]
  | o :: l, 0 => by simp [opAt]
  | o :: l, n + 1 => by simp [opAt, opAt_is l n]
def putL : List (Nat × Value) → Act → Act
  | [], a => a
  | (d, v) :: l, a => putL l (a.put (some d) v)
noncomputable def pickOps : Array Oper := match (Tryz.f5).body with
  | some c => (regAt c 13).getD #[]
  | none => #[]
theorem eval_tm {a : Act} {d : Nat} {v : Value} (h : a.eval (.tmp d) = v) : a.tmps[d]?.getD undef = v := by
  rw [← h]; unfold Act.eval; exact (Array.getD_eq_getD_getElem? ..).symm
theorem pick_ops {P : Program} {Q : Exit → Act → World → Prop} {id : Nat} {a : Act} {w : World} {ops : Array Oper} (h : ops = pickOps) (k : (Code.region id pickOps true).wp P Q a w) : (Code.region id ops true).wp P Q a w := by subst h; exact k
theorem pick_size : pickOps.size = 30 := by kernel_rfl
theorem pick_back : backB pickOps = true := by kernel_rfl
theorem pick_dsts : dstsB pickOps = true := by kernel_rfl
theorem pick_free : (pickOps.all fun o => o.guard.isNone) = true := by kernel_rfl
theorem pick_mixed : (Tryz.prog.follows .mixedOrders) = true := by kernel_rfl
/-- Where the round's region stands. -/
def PickF (N : Nat) (Ws : Bool → Bool → World) (L : Array Bool) (w' : World) : Prop :=
  (L.getD 26 false = true → L.getD 11 false = true ∧ L.getD 20 false = true) ∧ (L.getD 29 false = true → L.getD 26 false = true) ∧ Below N (Ws (L.getD 26 false) (L.getD 29 false)) w'
theorem PickF.set {N : Nat} {Ws : Bool → Bool → World} {L : Array Bool} {w' w'' : World} {j : Nat} (h : PickF N Ws L w') (hz : L.size = 30) (hN : N ≤ w'.heap.size) (hb : Below w'.heap.size w' w'') (j1 : j ≠ 26) (j2 : j ≠ 29) (j3 : j < 30) : PickF N Ws (L.setIfInBounds j true) w'' := by
  obtain ⟨f1, f2, f3⟩ := h
  unfold PickF
  rw [getD_set (j := 26) hz j3, getD_set (j := 29) hz j3, getD_set (j := 11) hz j3, getD_set (j := 20) hz j3, if_neg (show ¬ 26 = j from fun e => j1 e.symm), if_neg (show ¬ 29 = j from fun e => j2 e.symm)]
  refine ⟨fun h => ⟨?_, ?_⟩, f2, Below.trans f3 (hb.mono hN)⟩
  · split
    · rfl
    · exact (f1 h).1
  · split
    · rfl
    · exact (f1 h).2
theorem pick_0 {X : Nat} (ev : Operand → Value) (w : World) (o : Oper) (ho : opAt pickOps.toList 0 = some o) (h0 : ev (.tmp 7) = .pointer (some ⟨X, 0, none⟩)) : (execOp ev o).run Tryz.prog w = .ok (.value (.pointer (some ⟨X, 6, none⟩))) w := by
  obtain rfl := Option.some.inj (ho.symm.trans (show opAt pickOps.toList 0 = some _ from rfl)) |>.symm
  clear ho
  unfold execOp
  go_simp
theorem pick_1 {X g len c : Nat} (ev : Operand → Value) (w : World) (o : Oper) (ho : opAt pickOps.toList 1 = some o) (h1 : ev (.tmp 48) = .pointer (some ⟨X, 6, none⟩)) (hc : w.cell? ⟨X, 6, none⟩ = some (.slice (some ⟨g, 0, none⟩) len c)) : (execOp ev o).run Tryz.prog w = .ok (.value (.slice (some ⟨g, 0, none⟩) len c)) w := by
  obtain rfl := Option.some.inj (ho.symm.trans (show opAt pickOps.toList 1 = some _ from rfl)) |>.symm
  clear ho
  unfold execOp
  go_simp
theorem pick_2 {k : Nat} (ev : Operand → Value) (w : World) (o : Oper) (ho : opAt pickOps.toList 2 = some o) (h0 : ev (.tmp 8) = .int .i64 k) : (execOp ev o).run Tryz.prog w = .ok (.value (.int .i64 k)) w := by
  obtain rfl := Option.some.inj (ho.symm.trans (show opAt pickOps.toList 2 = some _ from rfl)) |>.symm
  clear ho
  unfold execOp
  go_simp
theorem pick_3 {X : Nat} (ev : Operand → Value) (w : World) (o : Oper) (ho : opAt pickOps.toList 3 = some o) (h0 : ev (.tmp 7) = .pointer (some ⟨X, 0, none⟩)) : (execOp ev o).run Tryz.prog w = .ok (.value (.pointer (some ⟨X, 6, none⟩))) w := by
  obtain rfl := Option.some.inj (ho.symm.trans (show opAt pickOps.toList 3 = some _ from rfl)) |>.symm
  clear ho
  unfold execOp
  go_simp
theorem pick_4 {X g len c : Nat} (ev : Operand → Value) (w : World) (o : Oper) (ho : opAt pickOps.toList 4 = some o) (h1 : ev (.tmp 51) = .pointer (some ⟨X, 6, none⟩)) (hc : w.cell? ⟨X, 6, none⟩ = some (.slice (some ⟨g, 0, none⟩) len c)) : (execOp ev o).run Tryz.prog w = .ok (.value (.slice (some ⟨g, 0, none⟩) len c)) w := by
  obtain rfl := Option.some.inj (ho.symm.trans (show opAt pickOps.toList 4 = some _ from rfl)) |>.symm
  clear ho
  unfold execOp
  go_simp
theorem pick_5 {k : Nat} (ev : Operand → Value) (w : World) (o : Oper) (ho : opAt pickOps.toList 5 = some o) (h0 : ev (.tmp 8) = .int .i64 k) : (execOp ev o).run Tryz.prog w = .ok (.value (.int .i64 k)) w := by
  obtain rfl := Option.some.inj (ho.symm.trans (show opAt pickOps.toList 5 = some _ from rfl)) |>.symm
  clear ho
  unfold execOp
  go_simp
theorem pick_6 {X : Nat} (ev : Operand → Value) (w : World) (o : Oper) (ho : opAt pickOps.toList 6 = some o) (h0 : ev (.tmp 7) = .pointer (some ⟨X, 0, none⟩)) : (execOp ev o).run Tryz.prog w = .ok (.value (.pointer (some ⟨X, 6, none⟩))) w := by
  obtain rfl := Option.some.inj (ho.symm.trans (show opAt pickOps.toList 6 = some _ from rfl)) |>.symm
  clear ho
  unfold execOp
  go_simp
theorem pick_7 {X g len c : Nat} (ev : Operand → Value) (w : World) (o : Oper) (ho : opAt pickOps.toList 7 = some o) (h1 : ev (.tmp 54) = .pointer (some ⟨X, 6, none⟩)) (hc : w.cell? ⟨X, 6, none⟩ = some (.slice (some ⟨g, 0, none⟩) len c)) : (execOp ev o).run Tryz.prog w = .ok (.value (.slice (some ⟨g, 0, none⟩) len c)) w := by
  obtain rfl := Option.some.inj (ho.symm.trans (show opAt pickOps.toList 7 = some _ from rfl)) |>.symm
  clear ho
  unfold execOp
  go_simp
theorem pick_8 {k : Nat} (ev : Operand → Value) (w : World) (o : Oper) (ho : opAt pickOps.toList 8 = some o) (h0 : ev (.tmp 8) = .int .i64 k) : (execOp ev o).run Tryz.prog w = .ok (.value (.int .i64 k)) w := by
  obtain rfl := Option.some.inj (ho.symm.trans (show opAt pickOps.toList 8 = some _ from rfl)) |>.symm
  clear ho
  unfold execOp
  go_simp
theorem pick_9 {g len c k : Nat} (ev : Operand → Value) (w : World) (o : Oper) (ho : opAt pickOps.toList 9 = some o) (h1 : ev (.tmp 55) = .slice (some ⟨g, 0, none⟩) len c) (h2 : ev (.tmp 56) = .int .i64 k) (hlt : (k : Int) < len) : (execOp ev o).run Tryz.prog w = .ok (.value (.pointer (some ⟨g, k * 5, none⟩))) w := by
  obtain rfl := Option.some.inj (ho.symm.trans (show opAt pickOps.toList 9 = some _ from rfl)) |>.symm
  clear ho
  unfold execOp
  go_simp
theorem pick_10 {g k : Nat} (ev : Operand → Value) (w : World) (o : Oper) (ho : opAt pickOps.toList 10 = some o) (h1 : ev (.tmp 57) = .pointer (some ⟨g, k * 5, none⟩)) : (execOp ev o).run Tryz.prog w = .ok (.value (.pointer (some ⟨g, k * 5, none⟩))) w := by
  obtain rfl := Option.some.inj (ho.symm.trans (show opAt pickOps.toList 10 = some _ from rfl)) |>.symm
  clear ho
  unfold execOp
  go_simp
theorem pick_11 {g k : Nat} {il ih : Int} (ev : Operand → Value) (w : World) (o : Oper) (ho : opAt pickOps.toList 11 = some o) (h1 : ev (.tmp 58) = .pointer (some ⟨g, k * 5, none⟩)) (hc : w.cell? ⟨g, k * 5, none⟩ = some (.int .i64 il)) (hd : w.cell? ⟨g, k * 5 + 1, none⟩ = some (.int .i64 ih)) : (execOp ev o).run Tryz.prog w = .ok (.value (.agg #[.int .i64 il, .int .i64 ih])) w := by
  obtain rfl := Option.some.inj (ho.symm.trans (show opAt pickOps.toList 11 = some _ from rfl)) |>.symm
  clear ho
  unfold execOp
  go_simp
theorem pick_12 {KB : Nat} (ev : Operand → Value) (w : World) (o : Oper) (ho : opAt pickOps.toList 12 = some o) (h0 : ev (.tmp 3) = .pointer (some ⟨KB, 0, none⟩)) (hk : ∀ v, ev (.const v) = v) : (execOp ev o).run Tryz.prog w = .ok (.value (.pointer (some ⟨KB, 2, none⟩))) w := by
  obtain rfl := Option.some.inj (ho.symm.trans (show opAt pickOps.toList 12 = some _ from rfl)) |>.symm
  clear ho
  unfold execOp
  go_simp
theorem pick_13 {KB : Nat} {k2 : Int} (ev : Operand → Value) (w : World) (o : Oper) (ho : opAt pickOps.toList 13 = some o) (h1 : ev (.tmp 60) = .pointer (some ⟨KB, 2, none⟩)) (hc : w.cell? ⟨KB, 2, none⟩ = some (.int .i64 k2)) : (execOp ev o).run Tryz.prog w = .ok (.value (.int .i64 k2)) w := by
  obtain rfl := Option.some.inj (ho.symm.trans (show opAt pickOps.toList 13 = some _ from rfl)) |>.symm
  clear ho
  unfold execOp
  go_simp
theorem pick_15 {X : Nat} (ev : Operand → Value) (w : World) (o : Oper) (ho : opAt pickOps.toList 15 = some o) (h0 : ev (.tmp 7) = .pointer (some ⟨X, 0, none⟩)) : (execOp ev o).run Tryz.prog w = .ok (.value (.pointer (some ⟨X, 6, none⟩))) w := by
  obtain rfl := Option.some.inj (ho.symm.trans (show opAt pickOps.toList 15 = some _ from rfl)) |>.symm
  clear ho
  unfold execOp
  go_simp
theorem pick_16 {X g len c : Nat} (ev : Operand → Value) (w : World) (o : Oper) (ho : opAt pickOps.toList 16 = some o) (h1 : ev (.tmp 63) = .pointer (some ⟨X, 6, none⟩)) (hc : w.cell? ⟨X, 6, none⟩ = some (.slice (some ⟨g, 0, none⟩) len c)) : (execOp ev o).run Tryz.prog w = .ok (.value (.slice (some ⟨g, 0, none⟩) len c)) w := by
  obtain rfl := Option.some.inj (ho.symm.trans (show opAt pickOps.toList 16 = some _ from rfl)) |>.symm
  clear ho
  unfold execOp
  go_simp
theorem pick_17 {k : Nat} (ev : Operand → Value) (w : World) (o : Oper) (ho : opAt pickOps.toList 17 = some o) (h0 : ev (.tmp 8) = .int .i64 k) : (execOp ev o).run Tryz.prog w = .ok (.value (.int .i64 k)) w := by
  obtain rfl := Option.some.inj (ho.symm.trans (show opAt pickOps.toList 17 = some _ from rfl)) |>.symm
  clear ho
  unfold execOp
  go_simp
theorem pick_18 {g len c k : Nat} (ev : Operand → Value) (w : World) (o : Oper) (ho : opAt pickOps.toList 18 = some o) (h1 : ev (.tmp 64) = .slice (some ⟨g, 0, none⟩) len c) (h2 : ev (.tmp 65) = .int .i64 k) (hlt : (k : Int) < len) : (execOp ev o).run Tryz.prog w = .ok (.value (.pointer (some ⟨g, k * 5, none⟩))) w := by
  obtain rfl := Option.some.inj (ho.symm.trans (show opAt pickOps.toList 18 = some _ from rfl)) |>.symm
  clear ho
  unfold execOp
  go_simp
theorem pick_19 {g k : Nat} (ev : Operand → Value) (w : World) (o : Oper) (ho : opAt pickOps.toList 19 = some o) (h1 : ev (.tmp 66) = .pointer (some ⟨g, k * 5, none⟩)) : (execOp ev o).run Tryz.prog w = .ok (.value (.pointer (some ⟨g, k * 5 + 2, none⟩))) w := by
  obtain rfl := Option.some.inj (ho.symm.trans (show opAt pickOps.toList 19 = some _ from rfl)) |>.symm
  clear ho
  unfold execOp
  go_simp
theorem pick_20 {g k : Nat} {tl th : Int} (ev : Operand → Value) (w : World) (o : Oper) (ho : opAt pickOps.toList 20 = some o) (h1 : ev (.tmp 67) = .pointer (some ⟨g, k * 5 + 2, none⟩)) (hc : w.cell? ⟨g, k * 5 + 2, none⟩ = some (.int .i64 tl)) (hd : w.cell? ⟨g, k * 5 + 3, none⟩ = some (.int .i64 th)) : (execOp ev o).run Tryz.prog w = .ok (.value (.agg #[.int .i64 tl, .int .i64 th])) w := by
  obtain rfl := Option.some.inj (ho.symm.trans (show opAt pickOps.toList 20 = some _ from rfl)) |>.symm
  clear ho
  unfold execOp
  go_simp
theorem pick_21 {KB : Nat} (ev : Operand → Value) (w : World) (o : Oper) (ho : opAt pickOps.toList 21 = some o) (h0 : ev (.tmp 3) = .pointer (some ⟨KB, 0, none⟩)) (hk : ∀ v, ev (.const v) = v) : (execOp ev o).run Tryz.prog w = .ok (.value (.pointer (some ⟨KB, 3, none⟩))) w := by
  obtain rfl := Option.some.inj (ho.symm.trans (show opAt pickOps.toList 21 = some _ from rfl)) |>.symm
  clear ho
  unfold execOp
  go_simp
theorem pick_22 {KB : Nat} {k3 : Int} (ev : Operand → Value) (w : World) (o : Oper) (ho : opAt pickOps.toList 22 = some o) (h1 : ev (.tmp 69) = .pointer (some ⟨KB, 3, none⟩)) (hc : w.cell? ⟨KB, 3, none⟩ = some (.int .i64 k3)) : (execOp ev o).run Tryz.prog w = .ok (.value (.int .i64 k3)) w := by
  obtain rfl := Option.some.inj (ho.symm.trans (show opAt pickOps.toList 22 = some _ from rfl)) |>.symm
  clear ho
  unfold execOp
  go_simp
theorem pick_24 {g len c k : Nat} (ev : Operand → Value) (w : World) (o : Oper) (ho : opAt pickOps.toList 24 = some o) (h1 : ev (.tmp 49) = .slice (some ⟨g, 0, none⟩) len c) (h2 : ev (.tmp 50) = .int .i64 k) (hlt : (k : Int) < len) : (execOp ev o).run Tryz.prog w = .ok (.value (.pointer (some ⟨g, k * 5, none⟩))) w := by
  obtain rfl := Option.some.inj (ho.symm.trans (show opAt pickOps.toList 24 = some _ from rfl)) |>.symm
  clear ho
  unfold execOp
  go_simp
theorem pick_25 {g k : Nat} (ev : Operand → Value) (w : World) (o : Oper) (ho : opAt pickOps.toList 25 = some o) (h1 : ev (.tmp 72) = .pointer (some ⟨g, k * 5, none⟩)) : (execOp ev o).run Tryz.prog w = .ok (.value (.pointer (some ⟨g, k * 5, none⟩))) w := by
  obtain rfl := Option.some.inj (ho.symm.trans (show opAt pickOps.toList 25 = some _ from rfl)) |>.symm
  clear ho
  unfold execOp
  go_simp
theorem pick_27 {g len c k : Nat} (ev : Operand → Value) (w : World) (o : Oper) (ho : opAt pickOps.toList 27 = some o) (h1 : ev (.tmp 52) = .slice (some ⟨g, 0, none⟩) len c) (h2 : ev (.tmp 53) = .int .i64 k) (hlt : (k : Int) < len) : (execOp ev o).run Tryz.prog w = .ok (.value (.pointer (some ⟨g, k * 5, none⟩))) w := by
  obtain rfl := Option.some.inj (ho.symm.trans (show opAt pickOps.toList 27 = some _ from rfl)) |>.symm
  clear ho
  unfold execOp
  go_simp
theorem pick_28 {g k : Nat} (ev : Operand → Value) (w : World) (o : Oper) (ho : opAt pickOps.toList 28 = some o) (h1 : ev (.tmp 74) = .pointer (some ⟨g, k * 5, none⟩)) : (execOp ev o).run Tryz.prog w = .ok (.value (.pointer (some ⟨g, k * 5 + 2, none⟩))) w := by
  obtain rfl := Option.some.inj (ho.symm.trans (show opAt pickOps.toList 28 = some _ from rfl)) |>.symm
  clear ho
  unfold execOp
  go_simp
theorem pick_dep {L : Array Bool} {i : Nat} {o : Oper} (hp : opAt pickOps.toList i = some o) (hw : ∀ e ∈ o.after, Region.binds .any e = true → L.getD e.on false = true) (j : Nat) (h : (match opAt pickOps.toList i with | some o => o.after.any fun e => Region.binds .any e && e.on == j | none => false) = true) : L.getD j false = true := by
  rw [hp] at h
  exact dep_of hw j h
theorem pick_eval {V : Nat → Value} {a0 a : Act} {L : Array Bool} {i : Nat} {o : Oper} (hS : Sl pickOps V a0 L a) (hp : opAt pickOps.toList i = some o) (hw : ∀ e ∈ o.after, Region.binds .any e = true → L.getD e.on false = true) (j d : Nat)
    (h : (match opAt pickOps.toList i with | some o => o.after.any fun e => Region.binds .any e && e.on == j | none => false) = true) (hd : (match opAt pickOps.toList j with | some o => o.dst == some d | none => false) = true) (hz : d < a0.tmps.size) : a.eval (.tmp d) = V j := by
  cases hj : opAt pickOps.toList j with
  | none => rw [hj] at hd; simp at hd
  | some o' =>
    rw [hj] at hd
    rw [opAt_is] at hj
    exact hS.eval (by simpa using hj) (by simpa using hd) (pick_dep hp hw j h) hz
set_option maxRecDepth 100000 in
set_option maxHeartbeats 8000000 in
theorem pick_round {Q : Exit → Act → World → Prop} {id : Nat} {a0 : Act} {wr : World} (X KB g len c k : Nat) (il ih tl th k2 k3 pi pt : Int) (hz : 76 < a0.tmps.size) (t7 : a0.eval (.tmp 7) = .pointer (some ⟨X, 0, none⟩)) (t8 : a0.eval (.tmp 8) = .int .i64 k) (t3 : a0.eval (.tmp 3) = .pointer (some ⟨KB, 0, none⟩))
    (lX : X < wr.heap.size) (lK : KB < wr.heap.size) (lg : g < wr.heap.size) (nX : ¬ g = X) (nK : ¬ g = KB) (x6 : wr.cell? ⟨X, 6, none⟩ = some (.slice (some ⟨g, 0, none⟩) len c)) (r2 : wr.cell? ⟨KB, 2, none⟩ = some (.int .i64 k2)) (r3 : wr.cell? ⟨KB, 3, none⟩ = some (.int .i64 k3))
    (E0 : wr.cell? ⟨g, k * 5, none⟩ = some (.int .i64 il)) (E1 : wr.cell? ⟨g, k * 5 + 1, none⟩ = some (.int .i64 ih)) (E2 : wr.cell? ⟨g, k * 5 + 2, none⟩ = some (.int .i64 tl)) (E3 : wr.cell? ⟨g, k * 5 + 3, none⟩ = some (.int .i64 th)) (HF : ∀ o, wr.frozen? ⟨g, o, none⟩ = false) (hlt : (k : Int) < len)
    (Q0 : ∀ w, Calls Tryz.prog 19 #[.agg #[.int .i64 il, .int .i64 ih], .int .i64 k2] w fun e w' => e = .returned (.agg #[.int .i64 pi, .int .i64 pi]) ∧ Below w.heap.size w w')
    (Q1 : ∀ w, Calls Tryz.prog 19 #[.agg #[.int .i64 tl, .int .i64 th], .int .i64 k3] w fun e w' => e = .returned (.agg #[.int .i64 pt, .int .i64 pt]) ∧ Below w.heap.size w w')
    (hQ : ∀ w', Below wr.heap.size ((((wr.setCell ⟨g, k * 5, none⟩ (.int .i64 pi)).setCell ⟨g, k * 5 + 1, none⟩ (.int .i64 pi)).setCell ⟨g, k * 5 + 2, none⟩ (.int .i64 pt)).setCell ⟨g, k * 5 + 3, none⟩ (.int .i64 pt)) w' →
      Q .normal (putL [(48, .pointer (some ⟨X, 6, none⟩)), (49, .slice (some ⟨g, 0, none⟩) len c), (50, .int .i64 k), (51, .pointer (some ⟨X, 6, none⟩)), (52, .slice (some ⟨g, 0, none⟩) len c), (53, .int .i64 k), (54, .pointer (some ⟨X, 6, none⟩)), (55, .slice (some ⟨g, 0, none⟩) len c), (56, .int .i64 k), (57, .pointer (some ⟨g, k * 5, none⟩)), (58, .pointer (some ⟨g, k * 5, none⟩)), (59, .agg #[.int .i64 il, .int .i64 ih]), (60, .pointer (some ⟨KB, 2, none⟩)), (61, .int .i64 k2), (62, .agg #[.int .i64 pi, .int .i64 pi]), (63, .pointer (some ⟨X, 6, none⟩)), (64, .slice (some ⟨g, 0, none⟩) len c), (65, .int .i64 k), (66, .pointer (some ⟨g, k * 5, none⟩)), (67, .pointer (some ⟨g, k * 5 + 2, none⟩)), (68, .agg #[.int .i64 tl, .int .i64 th]), (69, .pointer (some ⟨KB, 3, none⟩)), (70, .int .i64 k3), (71, .agg #[.int .i64 pt, .int .i64 pt]), (72, .pointer (some ⟨g, k * 5, none⟩)), (73, .pointer (some ⟨g, k * 5, none⟩)), (74, .pointer (some ⟨g, k * 5, none⟩)), (75, .pointer (some ⟨g, k * 5 + 2, none⟩))] a0) w') : (Code.region id pickOps true).wp Tryz.prog Q a0 wr := by
  obtain ⟨w1b, hw1b⟩ : ∃ x, x = (wr.setCell ⟨g, k * 5, none⟩ (.int .i64 pi)).setCell ⟨g, k * 5 + 1, none⟩ (.int .i64 pi) := ⟨_, rfl⟩
  obtain ⟨w2b, hw2b⟩ : ∃ x, x = (w1b.setCell ⟨g, k * 5 + 2, none⟩ (.int .i64 pt)).setCell ⟨g, k * 5 + 3, none⟩ (.int .i64 pt) := ⟨_, rfl⟩
  rw [← hw1b, ← hw2b] at hQ
  have U1 : ∀ b o, ¬ g = b → w1b.cell? ⟨b, o, none⟩ = wr.cell? ⟨b, o, none⟩ := fun b o h => by rw [hw1b]; exact (World.cell?_setCell_other _ _ _ _ (fun e => by injection e with e1 e2; omega)).trans (World.cell?_setCell_other _ _ _ _ (fun e => by injection e with e1 e2; omega))
  have U2 : ∀ b o, ¬ g = b → w2b.cell? ⟨b, o, none⟩ = wr.cell? ⟨b, o, none⟩ := fun b o h => by rw [hw2b]; exact ((World.cell?_setCell_other _ _ _ _ (fun e => by injection e with e1 e2; omega)).trans (World.cell?_setCell_other _ _ _ _ (fun e => by injection e with e1 e2; omega))).trans (U1 b o h)
  have FR1 : ∀ o, w1b.frozen? ⟨g, o, none⟩ = false := fun o => by rw [hw1b]; exact ((World.frozen?_setCell _ _ _ _).trans (World.frozen?_setCell _ _ _ _)).trans (HF o)
  have G2b : w1b.cell? ⟨g, k * 5 + 2, none⟩ = some (.int .i64 tl) := by rw [hw1b]; exact ((World.cell?_setCell_other _ _ _ _ (fun e => by injection e with e1 e2; omega)).trans (World.cell?_setCell_other _ _ _ _ (fun e => by injection e with e1 e2; omega))).trans E2
  have G3b : w1b.cell? ⟨g, k * 5 + 3, none⟩ = some (.int .i64 th) := by rw [hw1b]; exact ((World.cell?_setCell_other _ _ _ _ (fun e => by injection e with e1 e2; omega)).trans (World.cell?_setCell_other _ _ _ _ (fun e => by injection e with e1 e2; omega))).trans E3
  have z1b : w1b.heap.size = wr.heap.size := by rw [hw1b]; simp
  have z2b : w2b.heap.size = wr.heap.size := by rw [hw2b]; simp [z1b]
  obtain ⟨Ws, hWs⟩ : ∃ Ws : Bool → Bool → World, Ws = fun s t => if t then w2b else if s then w1b else wr := ⟨_, rfl⟩
  have UW : ∀ s t b o, ¬ g = b → (Ws s t).cell? ⟨b, o, none⟩ = wr.cell? ⟨b, o, none⟩ := fun s t b o h => by
    rw [hWs]
    cases t
    · cases s
      · rfl
      · exact U1 b o h
    · exact U2 b o h
  have ZW : ∀ s t, (Ws s t).heap.size = wr.heap.size := fun s t => by
    rw [hWs]
    cases t
    · cases s
      · rfl
      · exact z1b
    · exact z2b
  have e00 : Ws false false = wr := by rw [hWs]; rfl
  have e10 : Ws true false = w1b := by rw [hWs]; rfl
  have e11 : Ws true true = w2b := by rw [hWs]; rfl
  have HK : ∀ (s t : Bool) (w' : World), Below wr.heap.size (Ws s t) w' → w'.cell? ⟨X, 6, none⟩ = some (.slice (some ⟨g, 0, none⟩) len c) ∧ w'.cell? ⟨KB, 2, none⟩ = some (.int .i64 k2) ∧ w'.cell? ⟨KB, 3, none⟩ = some (.int .i64 k3) := fun s t w' h =>
    ⟨((h.cell (p := ⟨X, 6, none⟩) lX).trans (UW s t _ _ nX)).trans x6, ((h.cell (p := ⟨KB, 2, none⟩) lK).trans (UW s t _ _ nK)).trans r2, ((h.cell (p := ⟨KB, 3, none⟩) lK).trans (UW s t _ _ nK)).trans r3⟩
  clear hWs UW U1 U2
  refine region_vals (fun j => (#[.pointer (some ⟨X, 6, none⟩), .slice (some ⟨g, 0, none⟩) len c, .int .i64 k, .pointer (some ⟨X, 6, none⟩), .slice (some ⟨g, 0, none⟩) len c, .int .i64 k, .pointer (some ⟨X, 6, none⟩), .slice (some ⟨g, 0, none⟩) len c, .int .i64 k, .pointer (some ⟨g, k * 5, none⟩), .pointer (some ⟨g, k * 5, none⟩), .agg #[.int .i64 il, .int .i64 ih], .pointer (some ⟨KB, 2, none⟩), .int .i64 k2, .agg #[.int .i64 pi, .int .i64 pi], .pointer (some ⟨X, 6, none⟩), .slice (some ⟨g, 0, none⟩) len c, .int .i64 k, .pointer (some ⟨g, k * 5, none⟩), .pointer (some ⟨g, k * 5 + 2, none⟩), .agg #[.int .i64 tl, .int .i64 th], .pointer (some ⟨KB, 3, none⟩), .int .i64 k3, .agg #[.int .i64 pt, .int .i64 pt], .pointer (some ⟨g, k * 5, none⟩), .pointer (some ⟨g, k * 5, none⟩), .bool true, .pointer (some ⟨g, k * 5, none⟩), .pointer (some ⟨g, k * 5 + 2, none⟩), .bool true] : Array Value).getD j undef)
    (fun L w' => PickF wr.heap.size Ws L w') pick_mixed pick_back pick_dsts pick_free ?start ?step ?last
  case start => exact ⟨fun h => by rw [getD_replicate_false] at h; exact absurd h (by decide), fun h => by rw [getD_replicate_false] at h; exact absurd h (by decide), by rw [getD_replicate_false, getD_replicate_false, e00]; exact ⟨rfl, rfl, rfl, Nat.le_refl _, fun _ _ => rfl⟩⟩
  case step =>
    intro L a w' i o hs hF hS ho hl hw
    rw [pick_size] at hs
    have hF0 := hF
    obtain ⟨f1, f2, hb⟩ := hF0
    obtain ⟨C6, C2, C3⟩ := HK _ _ w' hb
    have hi : i < 30 := by rw [← pick_size]; exact (Array.getElem?_eq_some_iff.1 ho).1
    have hp : opAt pickOps.toList i = some o := by rw [opAt_is, ← ho]; simp
    have X7 : a.eval (.tmp 7) = .pointer (some ⟨X, 0, none⟩) := (hS.keep (d := 7) (by kernel_rfl)).trans t7
    have X8 : a.eval (.tmp 8) = .int .i64 k := (hS.keep (d := 8) (by kernel_rfl)).trans t8
    have X3 : a.eval (.tmp 3) = .pointer (some ⟨KB, 0, none⟩) := (hS.keep (d := 3) (by kernel_rfl)).trans t3
    have hN : wr.heap.size ≤ w'.heap.size := by have := hb.size; rw [ZW] at this; exact this
    have ST := fun j w'' (hb' : Below w'.heap.size w' w'') j1 j2 j3 => hF.set (j := j) hs hN hb' j1 j2 j3
    match i, hi with
    | 0, _ =>
      exact .inl ⟨pick_0 a.eval w' o hp X7, ST 0 w' (Below.refl _ _) (by decide) (by decide) (by decide)⟩
    | 1, _ =>
      have h1 : a.eval (.tmp 48) = .pointer (some ⟨X, 6, none⟩) := pick_eval hS hp hw 0 48 (by kernel_rfl) (by kernel_rfl) (by omega)
      exact .inl ⟨pick_1 a.eval w' o hp h1 C6, ST 1 w' (Below.refl _ _) (by decide) (by decide) (by decide)⟩
    | 2, _ =>
      exact .inl ⟨pick_2 a.eval w' o hp X8, ST 2 w' (Below.refl _ _) (by decide) (by decide) (by decide)⟩
    | 3, _ =>
      exact .inl ⟨pick_3 a.eval w' o hp X7, ST 3 w' (Below.refl _ _) (by decide) (by decide) (by decide)⟩
    | 4, _ =>
      have h1 : a.eval (.tmp 51) = .pointer (some ⟨X, 6, none⟩) := pick_eval hS hp hw 3 51 (by kernel_rfl) (by kernel_rfl) (by omega)
      exact .inl ⟨pick_4 a.eval w' o hp h1 C6, ST 4 w' (Below.refl _ _) (by decide) (by decide) (by decide)⟩
    | 5, _ =>
      exact .inl ⟨pick_5 a.eval w' o hp X8, ST 5 w' (Below.refl _ _) (by decide) (by decide) (by decide)⟩
    | 6, _ =>
      exact .inl ⟨pick_6 a.eval w' o hp X7, ST 6 w' (Below.refl _ _) (by decide) (by decide) (by decide)⟩
    | 7, _ =>
      have h1 : a.eval (.tmp 54) = .pointer (some ⟨X, 6, none⟩) := pick_eval hS hp hw 6 54 (by kernel_rfl) (by kernel_rfl) (by omega)
      exact .inl ⟨pick_7 a.eval w' o hp h1 C6, ST 7 w' (Below.refl _ _) (by decide) (by decide) (by decide)⟩
    | 8, _ =>
      exact .inl ⟨pick_8 a.eval w' o hp X8, ST 8 w' (Below.refl _ _) (by decide) (by decide) (by decide)⟩
    | 9, _ =>
      have h1 : a.eval (.tmp 55) = .slice (some ⟨g, 0, none⟩) len c := pick_eval hS hp hw 7 55 (by kernel_rfl) (by kernel_rfl) (by omega)
      have h2 : a.eval (.tmp 56) = .int .i64 k := pick_eval hS hp hw 8 56 (by kernel_rfl) (by kernel_rfl) (by omega)
      exact .inl ⟨pick_9 a.eval w' o hp h1 h2 hlt, ST 9 w' (Below.refl _ _) (by decide) (by decide) (by decide)⟩
    | 10, _ =>
      have h1 : a.eval (.tmp 57) = .pointer (some ⟨g, k * 5, none⟩) := pick_eval hS hp hw 9 57 (by kernel_rfl) (by kernel_rfl) (by omega)
      exact .inl ⟨pick_10 a.eval w' o hp h1, ST 10 w' (Below.refl _ _) (by decide) (by decide) (by decide)⟩
    | 11, _ =>
      have h1 : a.eval (.tmp 58) = .pointer (some ⟨g, k * 5, none⟩) := pick_eval hS hp hw 10 58 (by kernel_rfl) (by kernel_rfl) (by omega)
      have l26 : L.getD 26 false = false := by cases h : L.getD 26 false; · rfl
                                               · have := getD_both hl; rw [((f1 h).1)] at this; exact absurd this (by decide)
      have l29 : L.getD 29 false = false := by cases h : L.getD 29 false; · rfl
                                               · rw [f2 h] at l26; exact absurd l26 (by decide)
      rw [l26, l29, e00] at hb
      exact .inl ⟨pick_11 a.eval w' o hp h1 ((hb.cell (p := ⟨g, k * 5, none⟩) lg).trans E0) ((hb.cell (p := ⟨g, k * 5 + 1, none⟩) lg).trans E1), ST 11 w' (Below.refl _ _) (by decide) (by decide) (by decide)⟩
    | 12, _ =>
      exact .inl ⟨pick_12 a.eval w' o hp X3 (fun v => rfl), ST 12 w' (Below.refl _ _) (by decide) (by decide) (by decide)⟩
    | 13, _ =>
      have h1 : a.eval (.tmp 60) = .pointer (some ⟨KB, 2, none⟩) := pick_eval hS hp hw 12 60 (by kernel_rfl) (by kernel_rfl) (by omega)
      exact .inl ⟨pick_13 a.eval w' o hp h1 C2, ST 13 w' (Below.refl _ _) (by decide) (by decide) (by decide)⟩
    | 14, _ =>
      have h1 : a.eval (.tmp 59) = .agg #[.int .i64 il, .int .i64 ih] := pick_eval hS hp hw 11 59 (by kernel_rfl) (by kernel_rfl) (by omega)
      have h2 : a.eval (.tmp 61) = .int .i64 k2 := pick_eval hS hp hw 13 61 (by kernel_rfl) (by kernel_rfl) (by omega)
      refine .inr ?_
      obtain rfl := Option.some.inj (hp.symm.trans (show opAt pickOps.toList 14 = some _ from rfl)) |>.symm
      replace h1 := eval_tm h1
      replace h2 := eval_tm h2
      clear hF f1 f2 hb HK ZW e00 e10 e11 z1b z2b FR1 G2b G3b hN hS ho hp hl hw hQ hw1b hw2b X7 X8 X3 C6 C2 C3 t7 t8 t3 E0 E1 E2 E3 HF x6 r2 r3
      unfold Oper.wp execOp
      go_simp
      refine (Q0 w').mono ?_
      rintro E w'' ⟨rfl, hb''⟩
      exact ⟨rfl, ST 14 w'' hb'' (by decide) (by decide) (by decide)⟩
    | 15, _ =>
      exact .inl ⟨pick_15 a.eval w' o hp X7, ST 15 w' (Below.refl _ _) (by decide) (by decide) (by decide)⟩
    | 16, _ =>
      have h1 : a.eval (.tmp 63) = .pointer (some ⟨X, 6, none⟩) := pick_eval hS hp hw 15 63 (by kernel_rfl) (by kernel_rfl) (by omega)
      exact .inl ⟨pick_16 a.eval w' o hp h1 C6, ST 16 w' (Below.refl _ _) (by decide) (by decide) (by decide)⟩
    | 17, _ =>
      exact .inl ⟨pick_17 a.eval w' o hp X8, ST 17 w' (Below.refl _ _) (by decide) (by decide) (by decide)⟩
    | 18, _ =>
      have h1 : a.eval (.tmp 64) = .slice (some ⟨g, 0, none⟩) len c := pick_eval hS hp hw 16 64 (by kernel_rfl) (by kernel_rfl) (by omega)
      have h2 : a.eval (.tmp 65) = .int .i64 k := pick_eval hS hp hw 17 65 (by kernel_rfl) (by kernel_rfl) (by omega)
      exact .inl ⟨pick_18 a.eval w' o hp h1 h2 hlt, ST 18 w' (Below.refl _ _) (by decide) (by decide) (by decide)⟩
    | 19, _ =>
      have h1 : a.eval (.tmp 66) = .pointer (some ⟨g, k * 5, none⟩) := pick_eval hS hp hw 18 66 (by kernel_rfl) (by kernel_rfl) (by omega)
      exact .inl ⟨pick_19 a.eval w' o hp h1, ST 19 w' (Below.refl _ _) (by decide) (by decide) (by decide)⟩
    | 20, _ =>
      have h1 : a.eval (.tmp 67) = .pointer (some ⟨g, k * 5 + 2, none⟩) := pick_eval hS hp hw 19 67 (by kernel_rfl) (by kernel_rfl) (by omega)
      have l26 : L.getD 26 false = false := by cases h : L.getD 26 false; · rfl
                                               · have := getD_both hl; rw [((f1 h).2)] at this; exact absurd this (by decide)
      have l29 : L.getD 29 false = false := by cases h : L.getD 29 false; · rfl
                                               · rw [f2 h] at l26; exact absurd l26 (by decide)
      rw [l26, l29, e00] at hb
      exact .inl ⟨pick_20 a.eval w' o hp h1 ((hb.cell (p := ⟨g, k * 5 + 2, none⟩) lg).trans E2) ((hb.cell (p := ⟨g, k * 5 + 3, none⟩) lg).trans E3), ST 20 w' (Below.refl _ _) (by decide) (by decide) (by decide)⟩
    | 21, _ =>
      exact .inl ⟨pick_21 a.eval w' o hp X3 (fun v => rfl), ST 21 w' (Below.refl _ _) (by decide) (by decide) (by decide)⟩
    | 22, _ =>
      have h1 : a.eval (.tmp 69) = .pointer (some ⟨KB, 3, none⟩) := pick_eval hS hp hw 21 69 (by kernel_rfl) (by kernel_rfl) (by omega)
      exact .inl ⟨pick_22 a.eval w' o hp h1 C3, ST 22 w' (Below.refl _ _) (by decide) (by decide) (by decide)⟩
    | 23, _ =>
      have h1 : a.eval (.tmp 68) = .agg #[.int .i64 tl, .int .i64 th] := pick_eval hS hp hw 20 68 (by kernel_rfl) (by kernel_rfl) (by omega)
      have h2 : a.eval (.tmp 70) = .int .i64 k3 := pick_eval hS hp hw 22 70 (by kernel_rfl) (by kernel_rfl) (by omega)
      refine .inr ?_
      obtain rfl := Option.some.inj (hp.symm.trans (show opAt pickOps.toList 23 = some _ from rfl)) |>.symm
      replace h1 := eval_tm h1
      replace h2 := eval_tm h2
      clear hF f1 f2 hb HK ZW e00 e10 e11 z1b z2b FR1 G2b G3b hN hS ho hp hl hw hQ hw1b hw2b X7 X8 X3 C6 C2 C3 t7 t8 t3 E0 E1 E2 E3 HF x6 r2 r3
      unfold Oper.wp execOp
      go_simp
      refine (Q1 w').mono ?_
      rintro E w'' ⟨rfl, hb''⟩
      exact ⟨rfl, ST 23 w'' hb'' (by decide) (by decide) (by decide)⟩
    | 24, _ =>
      have h1 : a.eval (.tmp 49) = .slice (some ⟨g, 0, none⟩) len c := pick_eval hS hp hw 1 49 (by kernel_rfl) (by kernel_rfl) (by omega)
      have h2 : a.eval (.tmp 50) = .int .i64 k := pick_eval hS hp hw 2 50 (by kernel_rfl) (by kernel_rfl) (by omega)
      exact .inl ⟨pick_24 a.eval w' o hp h1 h2 hlt, ST 24 w' (Below.refl _ _) (by decide) (by decide) (by decide)⟩
    | 25, _ =>
      have h1 : a.eval (.tmp 72) = .pointer (some ⟨g, k * 5, none⟩) := pick_eval hS hp hw 24 72 (by kernel_rfl) (by kernel_rfl) (by omega)
      exact .inl ⟨pick_25 a.eval w' o hp h1, ST 25 w' (Below.refl _ _) (by decide) (by decide) (by decide)⟩
    | 26, _ =>
      have h1 : a.eval (.tmp 73) = .pointer (some ⟨g, k * 5, none⟩) := pick_eval hS hp hw 25 73 (by kernel_rfl) (by kernel_rfl) (by omega)
      have h2 : a.eval (.tmp 62) = .agg #[.int .i64 pi, .int .i64 pi] := pick_eval hS hp hw 14 62 (by kernel_rfl) (by kernel_rfl) (by omega)
      have l26 : L.getD 26 false = false := getD_both hl
      have l29 : L.getD 29 false = false := by cases h : L.getD 29 false; · rfl
                                               · rw [f2 h] at l26; exact absurd l26 (by decide)
      rw [l26, l29, e00] at hb
      have G0 := (hb.cell (p := ⟨g, k * 5, none⟩) (by omega)).trans E0
      have G1 := (hb.cell (p := ⟨g, k * 5 + 1, none⟩) (by omega)).trans E1
      have R0 : ∀ o, w'.frozen? ⟨g, o, none⟩ = false := fun o => (hb.frozen (p := ⟨g, o, none⟩) (by omega)).trans (HF o)
      have FN : PickF wr.heap.size Ws (L.setIfInBounds 26 true) ((w'.setCell ⟨g, k * 5, none⟩ (.int .i64 pi)).setCell ⟨g, k * 5 + 1, none⟩ (.int .i64 pi)) := by
        refine ⟨fun _ => ⟨?_, ?_⟩, fun _ => ?_, ?_⟩
        · rw [getD_set hs (by decide), if_neg (by decide)]; exact pick_dep hp hw 11 (by kernel_rfl)
        · rw [getD_set hs (by decide), if_neg (by decide)]; exact pick_dep hp hw 20 (by kernel_rfl)
        · rw [getD_set hs (by decide), if_pos rfl]
        · rw [getD_set (j := 26) hs (by decide), if_pos rfl, getD_set (j := 29) hs (by decide), if_neg (by decide), l29, e10, hw1b]
          exact bl_both (bl_both hb _) _
      replace FN := Lib.hid FN
      refine .inr ?_
      obtain rfl := Option.some.inj (hp.symm.trans (show opAt pickOps.toList 26 = some _ from rfl)) |>.symm
      replace h1 := eval_tm h1
      replace h2 := eval_tm h2
      clear hF f1 f2 hb HK ZW e00 e10 e11 z1b z2b FR1 G2b G3b hN hS ho hp hl hw hQ hw1b hw2b X7 X8 X3 C6 C2 C3 t7 t8 t3 E0 E1 E2 E3 HF x6 r2 r3 ST Q0 Q1
      unfold Oper.wp execOp
      go_simp
      exact FN.out
    | 27, _ =>
      have h1 : a.eval (.tmp 52) = .slice (some ⟨g, 0, none⟩) len c := pick_eval hS hp hw 4 52 (by kernel_rfl) (by kernel_rfl) (by omega)
      have h2 : a.eval (.tmp 53) = .int .i64 k := pick_eval hS hp hw 5 53 (by kernel_rfl) (by kernel_rfl) (by omega)
      exact .inl ⟨pick_27 a.eval w' o hp h1 h2 hlt, ST 27 w' (Below.refl _ _) (by decide) (by decide) (by decide)⟩
    | 28, _ =>
      have h1 : a.eval (.tmp 74) = .pointer (some ⟨g, k * 5, none⟩) := pick_eval hS hp hw 27 74 (by kernel_rfl) (by kernel_rfl) (by omega)
      exact .inl ⟨pick_28 a.eval w' o hp h1, ST 28 w' (Below.refl _ _) (by decide) (by decide) (by decide)⟩
    | 29, _ =>
      have h1 : a.eval (.tmp 75) = .pointer (some ⟨g, k * 5 + 2, none⟩) := pick_eval hS hp hw 28 75 (by kernel_rfl) (by kernel_rfl) (by omega)
      have h2 : a.eval (.tmp 71) = .agg #[.int .i64 pt, .int .i64 pt] := pick_eval hS hp hw 23 71 (by kernel_rfl) (by kernel_rfl) (by omega)
      have l26 : L.getD 26 false = true := pick_dep hp hw 26 (by kernel_rfl)
      have l29 : L.getD 29 false = false := getD_both hl
      rw [l26, l29, e10] at hb
      have G0 := (hb.cell (p := ⟨g, k * 5 + 2, none⟩) (by omega)).trans G2b
      have G1 := (hb.cell (p := ⟨g, k * 5 + 3, none⟩) (by omega)).trans G3b
      have R0 : ∀ o, w'.frozen? ⟨g, o, none⟩ = false := fun o => (hb.frozen (p := ⟨g, o, none⟩) (by omega)).trans (FR1 o)
      have FN : PickF wr.heap.size Ws (L.setIfInBounds 29 true) ((w'.setCell ⟨g, k * 5 + 2, none⟩ (.int .i64 pt)).setCell ⟨g, k * 5 + 3, none⟩ (.int .i64 pt)) := by
        refine ⟨fun _ => ⟨?_, ?_⟩, fun _ => ?_, ?_⟩
        · rw [getD_set hs (by decide), if_neg (by decide)]; exact (f1 l26).1
        · rw [getD_set hs (by decide), if_neg (by decide)]; exact (f1 l26).2
        · rw [getD_set hs (by decide), if_neg (by decide)]; exact l26
        · rw [getD_set (j := 26) hs (by decide), if_neg (by decide), getD_set (j := 29) hs (by decide), if_pos rfl, l26, e11, hw2b]
          exact bl_both (bl_both hb _) _
      replace FN := Lib.hid FN
      refine .inr ?_
      obtain rfl := Option.some.inj (hp.symm.trans (show opAt pickOps.toList 29 = some _ from rfl)) |>.symm
      replace h1 := eval_tm h1
      replace h2 := eval_tm h2
      clear hF f1 f2 hb HK ZW e00 e10 e11 z1b z2b FR1 G2b G3b hN hS ho hp hl hw hQ hw1b hw2b X7 X8 X3 C6 C2 C3 t7 t8 t3 E0 E1 E2 E3 HF x6 r2 r3 ST Q0 Q1
      unfold Oper.wp execOp
      go_simp
      exact FN.out
    | n + 30, h => exact absurd h (by omega)
  case last =>
    intro L w' hs hall hF
    rw [pick_size] at hs hall
    obtain ⟨_, _, hb⟩ := hF
    have al : ∀ j, j < 30 → L.getD j false = true := fun j hj => by
      have h1 := hall j hj
      have h2 : j < L.size := by rw [hs]; exact hj
      rw [Array.getD_eq_getD_getElem?, Array.getElem?_eq_getElem h2] at h1 ⊢
      exact h1
    rw [al 26 (by decide), al 29 (by decide), e11] at hb
    have e : putAll pickOps (fun j => (#[.pointer (some ⟨X, 6, none⟩), .slice (some ⟨g, 0, none⟩) len c, .int .i64 k, .pointer (some ⟨X, 6, none⟩), .slice (some ⟨g, 0, none⟩) len c, .int .i64 k, .pointer (some ⟨X, 6, none⟩), .slice (some ⟨g, 0, none⟩) len c, .int .i64 k, .pointer (some ⟨g, k * 5, none⟩), .pointer (some ⟨g, k * 5, none⟩), .agg #[.int .i64 il, .int .i64 ih], .pointer (some ⟨KB, 2, none⟩), .int .i64 k2, .agg #[.int .i64 pi, .int .i64 pi], .pointer (some ⟨X, 6, none⟩), .slice (some ⟨g, 0, none⟩) len c, .int .i64 k, .pointer (some ⟨g, k * 5, none⟩), .pointer (some ⟨g, k * 5 + 2, none⟩), .agg #[.int .i64 tl, .int .i64 th], .pointer (some ⟨KB, 3, none⟩), .int .i64 k3, .agg #[.int .i64 pt, .int .i64 pt], .pointer (some ⟨g, k * 5, none⟩), .pointer (some ⟨g, k * 5, none⟩), .bool true, .pointer (some ⟨g, k * 5, none⟩), .pointer (some ⟨g, k * 5 + 2, none⟩), .bool true] : Array Value).getD j undef) a0 pickOps.size = putL [(48, .pointer (some ⟨X, 6, none⟩)), (49, .slice (some ⟨g, 0, none⟩) len c), (50, .int .i64 k), (51, .pointer (some ⟨X, 6, none⟩)), (52, .slice (some ⟨g, 0, none⟩) len c), (53, .int .i64 k), (54, .pointer (some ⟨X, 6, none⟩)), (55, .slice (some ⟨g, 0, none⟩) len c), (56, .int .i64 k), (57, .pointer (some ⟨g, k * 5, none⟩)), (58, .pointer (some ⟨g, k * 5, none⟩)), (59, .agg #[.int .i64 il, .int .i64 ih]), (60, .pointer (some ⟨KB, 2, none⟩)), (61, .int .i64 k2), (62, .agg #[.int .i64 pi, .int .i64 pi]), (63, .pointer (some ⟨X, 6, none⟩)), (64, .slice (some ⟨g, 0, none⟩) len c), (65, .int .i64 k), (66, .pointer (some ⟨g, k * 5, none⟩)), (67, .pointer (some ⟨g, k * 5 + 2, none⟩)), (68, .agg #[.int .i64 tl, .int .i64 th]), (69, .pointer (some ⟨KB, 3, none⟩)), (70, .int .i64 k3), (71, .agg #[.int .i64 pt, .int .i64 pt]), (72, .pointer (some ⟨g, k * 5, none⟩)), (73, .pointer (some ⟨g, k * 5, none⟩)), (74, .pointer (some ⟨g, k * 5, none⟩)), (75, .pointer (some ⟨g, k * 5 + 2, none⟩))] a0 := by kernel_rfl
    rw [e]
    exact hQ w' hb
end Go.Proofs.YticobgianbecpaaGreatDoor
