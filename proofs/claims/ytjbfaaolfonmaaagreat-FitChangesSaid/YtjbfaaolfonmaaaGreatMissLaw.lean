/- What a fit of small changes misses: plain functions; rows of fractions. -/
import Derived.Test.YtjbfaaolfonmaaaGreatKChange
import Derived.Test.YtjbfaaolfonmaaaGreatKFit
import Derived.Maps.AppendAt
namespace Go.Proofs.YtjbfaaolfonmaaaGreat
open Go Go.Sort Go.RowKit

/-- Whether the first misses are small fractions. -/
def okM (r s v : Nat → Int) (n : Nat) : Nat → Bool
  | 0 => true
  | k + 1 => okM r s v n k && smallQ (miss r s v n k) (sums r s v n).den
theorem okM_bad {r s v : Nat → Int} {m n k : Nat} (hk : k < n) (h : smallQ (miss r s v m k) (sums r s v m).den = false) : okM r s v m n = false := by
  induction n with
  | zero => omega
  | succ n ih =>
    by_cases hin : k < n
    · simp only [okM, ih hin, Bool.false_and]
    · obtain rfl : k = n := by omega
      simp only [okM, h, Bool.and_false]
theorem okM_up {r s v : Nat → Int} {n k : Nat} (h : okM r s v n k = true) (h1 : smallQ (miss r s v n k) (sums r s v n).den = true) : okM r s v n (k + 1) = true := by simp only [okM, h, h1, Bool.and_self]
@[irreducible] def missQ (r s v : Nat → Int) (n m : Nat) : Int := if chgQ r s v n m ≠ 0 then chgQ r s v n m else if okM r s v n n = false then 8 else 0
@[irreducible] def missC (r s v : Nat → Int) (n m : Nat) : Nat := if missQ r s v n m = 0 then n else 0
@[irreducible] def missN (r s v : Nat → Int) (n i : Nat) : Int := lowN (miss r s v n i) (sums r s v n).den
@[irreducible] def missD (r s v : Nat → Int) (n i : Nat) : Int := lowD (miss r s v n i) (sums r s v n).den
theorem miss_err {r s v : Nat → Int} {n m : Nat} {Q : Int} (h : chgQ r s v n m = Q) (hQ : Q ≠ 0) : missQ r s v n m = Q ∧ missC r s v n m = 0 := by
  have e : missQ r s v n m = Q := by unfold missQ; rw [h, if_pos hQ]
  exact ⟨e, by unfold missC; rw [e, if_neg hQ]⟩
theorem miss_bad {r s v : Nat → Int} {n m : Nat} (h : chgQ r s v n m = 0) (hk : okM r s v n n = false) : missQ r s v n m = 8 ∧ missC r s v n m = 0 := by
  have e : missQ r s v n m = 8 := by unfold missQ; rw [h, if_neg (by decide), if_pos hk]
  exact ⟨e, by unfold missC; rw [e, if_neg (by decide)]⟩
theorem miss_ok {r s v : Nat → Int} {n m : Nat} (h : chgQ r s v n m = 0) (hk : okM r s v n n = true) : missQ r s v n m = 0 ∧ missC r s v n m = n := by
  have e : missQ r s v n m = 0 := by unfold missQ; rw [h, if_neg (by decide), if_neg (by simp [hk])]
  exact ⟨e, by unfold missC; rw [e, if_pos rfl]⟩
/-- What is known where the fit goes well. -/
theorem chg_good {r s v : Nat → Int} {n m : Nat} (h : chgQ r s v n m = 0) : 1 ≤ n ∧ n ≤ 20 ∧ m = n ∧ okTo r s v n = true ∧ 1 ≤ (sums r s v n).den ∧ chgA r s v n m = (sums r s v n).a ∧ chgB r s v n m = (sums r s v n).b ∧ chgD r s v n m = (sums r s v n).den := by
  have ea : chgA r s v n m = (sums r s v n).a := by unfold chgA; rw [if_pos h]
  have eb : chgB r s v n m = (sums r s v n).b := by unfold chgB; rw [if_pos h]
  have ed : chgD r s v n m = (sums r s v n).den := by unfold chgD; rw [if_pos h]
  have nn := den_nonneg r s v n
  unfold chgQ at h
  split at h
  · cases h
  · split at h
    · cases h
    · split at h
      · cases h
      · split at h
        · cases h
        · split at h
          · cases h
          · rename_i h1 h2 h3 h4 h5
            exact ⟨by omega, by omega, Classical.not_not.1 h2, by simpa using h4, by omega, ea, eb, ed⟩

/-- Pairs in a row. -/
def flat2 (N D : Nat → Int) (k : Nat) : List Value := (List.range k).flatMap fun i => [Value.int .i64 (N i), Value.int .i64 (D i)]
theorem flat2_next (N D : Nat → Int) (k : Nat) : flat2 N D (k + 1) = flat2 N D k ++ [.int .i64 (N k), .int .i64 (D k)] := by
  unfold flat2
  rw [List.range_succ, List.flatMap_append]
  rfl
theorem flat2_len (N D : Nat → Int) (k : Nat) : (flat2 N D k).length = k * 2 := by
  induction k with
  | zero => rfl
  | succ k ih => rw [flat2_next, List.length_append, ih]; simp; omega
theorem flat2_get (N D : Nat → Int) (k i : Nat) (hi : i < k) : (flat2 N D k)[i * 2]? = some (.int .i64 (N i)) ∧ (flat2 N D k)[i * 2 + 1]? = some (.int .i64 (D i)) := by
  induction k with
  | zero => omega
  | succ k ih =>
    have hl := flat2_len N D k
    rw [flat2_next]
    by_cases hk : i < k
    · rw [List.getElem?_append_left (by omega), List.getElem?_append_left (by omega)]
      exact ih hk
    · obtain rfl : i = k := by omega
      rw [List.getElem?_append_right (by omega), List.getElem?_append_right (by omega), hl, Nat.sub_self, Nat.add_sub_cancel_left]
      exact ⟨rfl, rfl⟩
/-- A row of fractions. -/
structure Fr (p : Option Addr) (n : Nat) (N D : Nat → Int) (w : World) : Prop where
  get : ∀ i, i < n → ∃ a, p = some a ∧ w.cell? (a.add (i * 2)) = some (.int .i64 (N i)) ∧ w.cell? (a.add (i * 2 + 1)) = some (.int .i64 (D i))
theorem Fr.bel {p : Option Addr} {n : Nat} {N D : Nat → Int} {w w' : World} (h : Fr p n N D w) (b : Below w.heap.size w w') : Fr p n N D w' :=
  ⟨fun i hi => by
    obtain ⟨a, ha, h1, h2⟩ := h.get i hi
    exact ⟨a, ha, (b.cell (p := a.add (i * 2)) (World.block_lt_of_cell? w _ h1)).trans h1, (b.cell (p := a.add (i * 2 + 1)) (World.block_lt_of_cell? w _ h2)).trans h2⟩⟩
theorem fr_own {w : World} {base : Nat} {V : Value} {k : Nat} {N D : Nat → Int} {t : TypeId} (h : w.ownsRow base t 2 V k (flat2 N D k)) : ∃ p c, V = .slice p k c ∧ Fr p k N D w := by
  have h' := h
  rcases h.2 with ⟨rfl, rfl⟩ | ⟨g, cap, cur, rfl, _⟩
  · exact ⟨none, 0, rfl, ⟨fun i hi => by omega⟩⟩
  · exact ⟨_, cap, rfl, ⟨fun i hi => ⟨_, rfl, h'.cells rfl _ _ (flat2_get N D k i hi).1, h'.cells rfl _ _ (flat2_get N D k i hi).2⟩⟩⟩
/-- What Misses hands back. -/
def MissRet (q : Int) (n : Nat) (N D : Nat → Int) (w : World) (E : Ending) (w' : World) : Prop := ∃ p c, E = .returned (.tuple #[.slice p n c, .int .i64 q]) ∧ Fr p n N D w' ∧ Below w.heap.size w w'
theorem missRet_none {q : Int} {N D : Nat → Int} {w w' : World} (h : Below w.heap.size w w') : MissRet q 0 N D w (.returned (.tuple #[.slice none 0 0, .int .i64 q])) w' := ⟨none, 0, rfl, ⟨fun i hi => by omega⟩, h⟩
/-- A row that grows. -/
theorem frac_row : ∃ i, (Tryz.prog.info? 53) = some i ∧ i.zero = some (.agg #[.int .i64 0, .int .i64 0]) ∧ i.size = 2 ∧ i.bytes = 16 := info_parts (by kernel_rfl)
theorem two_cell (x y : Int) : ∀ u ∈ [Value.int .i64 x, .int .i64 y], u.oneCell' = true := by
  intro u hu
  simp at hu
  rcases hu with rfl | rfl <;> rfl
theorem cell_two_new (w : World) (x y : Value) (t : TypeId) : ∀ j u, [x, y][j]? = some u → (w.alloc (.cells #[x, y] t)).cell? ((⟨w.heap.size, 0, none⟩ : Addr).add j) = some u := by
  intro j u hj
  match j, hj with
  | 0, hj => simp at hj; subst hj; simp [Addr.add]
  | 1, hj => simp at hj; subst hj; simp [Addr.add]
theorem cell_two_at {w : World} {g : Nat} (hg : w.heap.size = g) (x y : Value) (t : TypeId) : ∀ j u, [x, y][j]? = some u → (w.alloc (.cells #[x, y] t)).cell? ((⟨g, 0, none⟩ : Addr).add j) = some u := by
  subst hg
  exact cell_two_new w x y t
/-- The bounds of a miss. -/
theorem miss_bd {r s v : Nat → Int} {n i : Nat} (hn : n ≤ 20) (hi : i < n) (h : okTo r s v n = true) :
    (-800000000000000 ≤ (sums r s v n).a ∧ (sums r s v n).a ≤ 800000000000000) ∧ (-800000000000000 ≤ (sums r s v n).b ∧ (sums r s v n).b ≤ 800000000000000) ∧ (0 ≤ (sums r s v n).den ∧ (sums r s v n).den ≤ 400000000000000) ∧
    (-400000000000000000 ≤ v i * (sums r s v n).den ∧ v i * (sums r s v n).den ≤ 400000000000000000) ∧ (-800000000000000000 ≤ (sums r s v n).a * r i ∧ (sums r s v n).a * r i ≤ 800000000000000000) ∧ (-800000000000000000 ≤ (sums r s v n).b * s i ∧ (sums r s v n).b * s i ≤ 800000000000000000) := by
  obtain ⟨h1, h2, h3, h4, h5⟩ := sum_bd hn h
  obtain ⟨g1, g2, g3⟩ := okTo_spec h i hi
  have b1 := prod_bd h4.1 h4.2 (by omega : -20000000 ≤ (sums r s v n).yy) h3.2
  have b2 := prod_bd h5.1 h5.2 h2.1 h2.2
  have b3 := prod_bd h5.1 h5.2 (by omega : -20000000 ≤ (sums r s v n).xx) h1.2
  have b4 := prod_bd h4.1 h4.2 h2.1 h2.2
  have b5 := prod_bd (by omega : -20000000 ≤ (sums r s v n).xx) h1.2 (by omega : -20000000 ≤ (sums r s v n).yy) h3.2
  have nn := den_nonneg r s v n
  have q0 : 0 ≤ (sums r s v n).xy * (sums r s v n).xy := by
    rcases Int.le_total 0 (sums r s v n).xy with h | h
    · exact Int.mul_nonneg h h
    · exact Int.mul_nonneg_of_nonpos_of_nonpos h h
  have ha : -800000000000000 ≤ (sums r s v n).a ∧ (sums r s v n).a ≤ 800000000000000 := by unfold Sums.a; omega
  have hb : -800000000000000 ≤ (sums r s v n).b ∧ (sums r s v n).b ≤ 800000000000000 := by unfold Sums.b; omega
  have hd : (sums r s v n).den ≤ 400000000000000 := by unfold Sums.den; omega
  have c1 := prod_bd g3.1 g3.2 (by omega : -400000000000000 ≤ (sums r s v n).den) hd
  have c2 := prod_bd ha.1 ha.2 g1.1 g1.2
  have c3 := prod_bd hb.1 hb.2 g2.1 g2.2
  refine ⟨ha, hb, ⟨nn, hd⟩, ?_, ?_, ?_⟩ <;> omega
end Go.Proofs.YtjbfaaolfonmaaaGreat
