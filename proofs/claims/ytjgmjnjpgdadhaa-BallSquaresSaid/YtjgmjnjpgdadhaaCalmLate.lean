/- Regions that draw their order: quiet operations, then a store that does not wait for one extraction. -/
import Derived.Test.YtjgmjnjpgdadhaaCalmNew
namespace Go.Proofs.Ytjgmjnjpgdadhaa
open Go Go.Sort Go.RowKit

section
variable {P : Program} {C : World → Prop}

theorem wpAny_calm {Q : Exit → Act → World → Prop} {a : Act} {w : World} {l : List Oper} (n : Nat) (hB : Region.lexTailB .any l.toArray n = true)
    (hC : C { w with drawn := w.drawn + 1 }) (h : wpQuiet P l.toArray C (fun a' => ∀ w', C w' → wpList P l.toArray Q (l.drop n) a' w') (l.take n) a) :
    wpAny P .any l.toArray Q l.toArray.size (Array.replicate l.toArray.size false) a { w with drawn := w.drawn + 1 } := by
  simp only [Region.lexTailB, Bool.and_eq_true, decide_eq_true_eq] at hB
  obtain ⟨⟨⟨⟨hsel, hn⟩, hs⟩, hc⟩, hlex⟩ := hB
  have hn' : n < l.length := by simpa using hn
  have htl : (l.take n).length = n := by simp; omega
  have hdl : (l.drop n).length = l.toArray.size - n := by simp
  have inv0 : HeadInv .any l.toArray n (Array.replicate l.toArray.size false) :=
    ⟨by simp, fun j oj _ hl => absurd hl (by rw [getD_replicate_false]; decide), fun t _ ht => getD_in (by simpa using ht) (getD_replicate_false _ _)⟩
  have H := headQ_lex (md := .any) (g := l.toArray.size - n) hsel hs hc hn (l.take n) 0 _ a (fun j hj => by
    have hj' : j < n := by rw [htl] at hj; exact hj
    simp [hj']) (by simpa using htl) inv0 (by rw [htl]; exact hlex) h
  have := wpAny_of_headQ (Q := Q) (g := l.toArray.size - n) (fun listed a' w' hw hL => by
    have := wpAny_of_seq (md := .any) (Q' := Q) (l.drop n) n listed a' w' (fun j => by simp [List.getElem?_drop]) (by rw [hdl]; exact hL.1) (hL.2 w' hw)
    rwa [hdl] at this) _ _ _ _ hC H
  rw [htl, show n + (l.toArray.size - n) = l.toArray.size by omega] at this
  exact this

theorem wpQuiet_set {l : List Oper} {s p : Nat} {os : Oper} (hs : l[s]? = some os) {K K' : Act → Prop} (hK : ∀ a, K a → K' a) (m : List Oper) : ∀ a, wpQuiet P l.toArray C K m a → wpQuiet P (l.set s (waiting os p)).toArray C K' m a := by
  induction m with
  | nil => intro a h; exact hK a h
  | cons o m ih =>
    intro a h
    unfold wpQuiet at h ⊢
    rw [yielded_set hs]
    split
    · rename_i hw
      rw [if_pos hw] at h
      obtain ⟨v, h1, h2⟩ := h
      exact ⟨v, h1, ih _ h2⟩
    · rename_i hw
      rw [if_neg hw] at h
      exact ih _ h
end

/-- n quiet operations, then a store that does not wait for the extraction number p, then the rest. -/
theorem calm_slate {P : Program} {id : Nat} {Q : Exit → Act → World → Prop} {a : Act} {w : World} {l : List Oper} (n p : Nat) (os op : Oper) (hs : l[n]? = some os) (hp : l[p]? = some op) (hm : P.follows .mixedOrders = true)
    (hB : Region.lexTailB .any (l.set n (waiting os p)).toArray n = true) (hL : lateB .any l n p = true) (hQ : ∀ c a v w, Q (.panic c) (a.put op.dst v) w → Q (.panic c) a w)
    (h : (∀ b, b < w.heap.size → ∀ d os o, (grow (redrawn w d) os).cell? ⟨b, o, none⟩ = w.cell? ⟨b, o, none⟩) →
      wpQuiet P l.toArray (fun w' => ∃ p : Regrown, w' = grow (redrawn w p.d) p.os) (fun a' => ∀ w', Below w.heap.size w w' → wpList P l.toArray Q (l.drop n) a' w') (l.take n) a) : (Code.region id l.toArray true).wp P Q a w := by
  have h := h fun b hb d os o => (below_regrown w d os).cell (p := ⟨b, o, none⟩) hb
  refine wp_region_any hm ?_
  have hsz : (l.set n (waiting os p)).toArray.size = l.toArray.size := by simp
  have := wpAny_calm (P := P) (Q := Q) (a := a) (w := w) (C := fun w' => ∃ p : Regrown, w' = grow (redrawn w p.d) p.os) (l := l.set n (waiting os p)) n hB ⟨⟨w.drawn + 1, #[]⟩, by rw [grow_empty]; rfl⟩ (by
    rw [List.take_set_of_le (by omega)]
    refine wpQuiet_set hs (fun a' hh w' hw' => ?_) _ _ h
    have hd : l.drop n = os :: l.drop (n + 1) := by
      have hl : n < l.length := (List.getElem?_eq_some_iff.1 hs).1
      have he : l[n] = os := (List.getElem?_eq_some_iff.1 hs).2
      rw [List.drop_eq_getElem_cons hl, he]
    have hd' : (l.set n (waiting os p)).drop n = waiting os p :: l.drop (n + 1) := by
      have hl : n < (l.set n (waiting os p)).length := by simpa using (List.getElem?_eq_some_iff.1 hs).1
      rw [List.drop_eq_getElem_cons hl]
      congr 1
      · simp
      · rw [List.drop_set_of_lt (by omega)]
    rw [hd']
    obtain ⟨p', rfl⟩ := hw'
    have h2 := hh _ (below_regrown w p'.d p'.os)
    rw [hd] at h2
    exact wpList_head hs h2)
  rw [hsz] at this
  exact wpAny_late hs hp hL hQ _ _ _ _ (by simp) this
end Go.Proofs.Ytjgmjnjpgdadhaa
