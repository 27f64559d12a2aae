/- Regions that draw their order, where each operation yields one value: a law by an invariant of the world alone. -/
import Derived.Test.YtnljkhlmdacfaaaGreatDoorCalmInv
namespace Go.Proofs.YtnljkhlmdacfaaaGreatDoor
open Go Go.Sort Go.RowKit

theorem dep_of {o : Oper} {L : Array Bool} (hw : ∀ e ∈ o.after, Region.binds .any e = true → L.getD e.on false = true) (j : Nat) (h : (o.after.any fun e => Region.binds .any e && e.on == j) = true) : L.getD j false = true := by
  obtain ⟨e, he, h2⟩ := Array.any_eq_true'.1 h
  simp only [Bool.and_eq_true, beq_iff_eq] at h2
  rw [← h2.2]
  exact hw e he h2.1
theorem getD_set {L : Array Bool} {i j n : Nat} (hs : L.size = n) (hi : i < n) (b : Bool) : (L.setIfInBounds i true).getD j b = if j = i then true else L.getD j b := by
  by_cases e : j = i
  · subst e
    rw [if_pos rfl, Array.getD_eq_getD_getElem?, Array.getElem?_setIfInBounds_self_of_lt (by omega)]
    rfl
  · rw [if_neg e, Array.getD_eq_getD_getElem?, Array.getElem?_setIfInBounds_ne (fun k => e k.symm), ← Array.getD_eq_getD_getElem?]
theorem region_vals {P : Program} {ops : Array Oper} {Q : Exit → Act → World → Prop} {id : Nat} {a0 : Act} {w : World} (V : Nat → Value) (F : Array Bool → World → Prop) (hm : P.follows .mixedOrders = true) (hB : backB ops = true) (hD : dstsB ops = true)
    (hG : (ops.all fun o => o.guard.isNone) = true) (start : F (Array.replicate ops.size false) { w with drawn := w.drawn + 1 })
    (step : ∀ (L : Array Bool) (a : Act) (w : World) (i : Nat) (o : Oper), L.size = ops.size → F L w → Sl ops V a0 L a → ops[i]? = some o → L.getD i true = false → (∀ e ∈ o.after, Region.binds .any e = true → L.getD e.on false = true) →
      ((execOp a.eval o).run P w = .ok (.value (V i)) w ∧ F (L.setIfInBounds i true) w) ∨ o.wp P a w (fun a' w' => a' = a.put o.dst (V i) ∧ F (L.setIfInBounds i true) w') Q)
    (last : ∀ (L : Array Bool) (w : World), L.size = ops.size → (∀ j, j < ops.size → L.getD j true = true) → F L w → Q .normal (putAll ops V a0 ops.size) w) : (Code.region id ops true).wp P Q a0 w := by
  refine wp_region_inv (fun L a w => F L w ∧ Sl ops V a0 L a) hm hB ⟨start, Sl.start V a0⟩ (fun L a w i o hs hI ho hl hw => ?_) (fun L a w hs hall hI => ?_)
  · have hg : o.guard = none := by
      have := Array.all_eq_true'.1 hG o (Array.mem_of_getElem? ho)
      simpa using this
    rcases step L a w i o hs hI.1 hI.2 ho hl hw with ⟨h1, h2⟩ | h
    · exact inv_value ho hg h1 ⟨h2, hI.2.put hD hs ho⟩
    · refine inv_wp ho hg (Oper.wp_mono (fun a' w' h' => ?_) h)
      obtain ⟨rfl, h'⟩ := h'
      exact ⟨h', hI.2.put hD hs ho⟩
  · have e := hI.2.done hD hs hall
    rw [e]
    exact last L w hs hall hI.1
/-- The same, where one operation's value is known when it is done only. -/
theorem region_one {P : Program} {ops : Array Oper} {Q : Exit → Act → World → Prop} {id : Nat} {a0 : Act} {w : World} (e : Nat) (V : Value → Nat → Value) (F : Value → Array Bool → World → Prop) (hm : P.follows .mixedOrders = true) (hB : backB ops = true) (hD : dstsB ops = true)
    (hG : (ops.all fun o => o.guard.isNone) = true) (hV : ∀ x y j, j ≠ e → V x j = V y j) (x0 : Value) (start : F x0 (Array.replicate ops.size false) { w with drawn := w.drawn + 1 })
    (step : ∀ (x : Value) (L : Array Bool) (a : Act) (w : World) (i : Nat) (o : Oper), L.size = ops.size → F x L w → Sl ops (V x) a0 L a → ops[i]? = some o → L.getD i true = false → (∀ e ∈ o.after, Region.binds .any e = true → L.getD e.on false = true) →
      ((execOp a.eval o).run P w = .ok (.value (V x i)) w ∧ F x (L.setIfInBounds i true) w) ∨ o.wp P a w (fun a' w' => ∃ y, (i ≠ e → y = x) ∧ a' = a.put o.dst (V y i) ∧ F y (L.setIfInBounds i true) w') Q)
    (last : ∀ (x : Value) (L : Array Bool) (w : World), L.size = ops.size → (∀ j, j < ops.size → L.getD j true = true) → F x L w → Q .normal (putAll ops (V x) a0 ops.size) w) : (Code.region id ops true).wp P Q a0 w := by
  refine wp_region_inv (fun L a w => ∃ x, F x L w ∧ Sl ops (V x) a0 L a) hm hB ⟨x0, start, Sl.start (V x0) a0⟩ (fun L a w i o hs hI ho hl hw => ?_) (fun L a w hs hall hI => ?_)
  · obtain ⟨x, hF, hS⟩ := hI
    have hg : o.guard = none := by
      have := Array.all_eq_true'.1 hG o (Array.mem_of_getElem? ho)
      simpa using this
    rcases step x L a w i o hs hF hS ho hl hw with ⟨h1, h2⟩ | h
    · exact inv_value ho hg h1 ⟨x, h2, hS.put hD hs ho⟩
    · refine inv_wp ho hg (Oper.wp_mono (fun a' w' h' => ?_) h)
      obtain ⟨y, hy, rfl, h'⟩ := h'
      refine ⟨y, h', ?_⟩
      by_cases hi : i = e
      · subst hi
        refine (hS.cast (V' := V y) fun j hj => ?_).put hD hs ho
        refine hV _ _ _ fun k => ?_
        subst k
        have := getD_false hs (Array.getElem?_eq_some_iff.1 ho).1
        rw [← Bool.not_eq_false] at hj
        refine hj ?_
        have hin : j < L.size := by rw [hs]; exact (Array.getElem?_eq_some_iff.1 ho).1
        rw [Array.getD_eq_getD_getElem?] at hl ⊢
        rw [Array.getElem?_eq_getElem hin] at hl ⊢
        exact hl
      · obtain rfl := hy hi
        exact hS.put hD hs ho
  · obtain ⟨x, hF, hS⟩ := hI
    have e := hS.done hD hs hall
    rw [e]
    exact last x L w hs hall hF
/-- Both worlds' cells turn. -/
theorem bl_both {N : Nat} {w w' : World} (h : Below N w w') {p : Addr} (v : Value) : Below N (w.setCell p v) (w'.setCell p v) := by
  refine ⟨h.os, h.tape, h.output, by simpa using h.size, fun k hk => ?_⟩
  have := h.block k hk
  simp only [World.setCell, Array.getElem?_modify, this]
end Go.Proofs.YtnljkhlmdacfaaaGreatDoor

