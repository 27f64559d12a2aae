/- Copies of rows of whole numbers; equal rows of fractions. -/
import Derived.Test.YtjbfaaolfonmaaaGreatRMisses
namespace Go.Proofs.YtjbfaaolfonmaaaGreat
open Go Go.Sort Go.RowKit

theorem flat2_inv {N D : Nat → Int} {k j : Nat} {u : Value} (h : (flat2 N D k)[j]? = some u) : j < k * 2 ∧ u = (if j % 2 = 0 then .int .i64 (N (j / 2)) else .int .i64 (D (j / 2))) := by
  have hj : j < k * 2 := by
    have := (List.getElem?_eq_some_iff.1 h).1
    rw [flat2_len] at this
    exact this
  obtain ⟨h1, h2⟩ := flat2_get N D k (j / 2) (by omega)
  refine ⟨hj, ?_⟩
  by_cases hm : j % 2 = 0
  · rw [if_pos hm]
    rw [show j / 2 * 2 = j by omega, h] at h1
    exact Option.some.inj h1
  · rw [if_neg hm]
    rw [show j / 2 * 2 + 1 = j by omega, h] at h2
    exact Option.some.inj h2
theorem flat2_one (N D : Nat → Int) (k : Nat) : ∀ u ∈ flat2 N D k, u.oneCell' = true := by
  intro u hu
  obtain ⟨j, hj⟩ := List.getElem?_of_mem hu
  have := (flat2_inv hj).2
  subst this
  split <;> rfl
theorem Zs.cells2 {a : Addr} {n : Nat} {Z : Nat → Nat → Int} {w : World} (h : Zs (some a) n 2 Z w) : ∀ j u, (flat2 (Z · 0) (Z · 1) n)[j]? = some u → w.cell? (a.add j) = some u := by
  intro j u hj
  obtain ⟨hl, rfl⟩ := flat2_inv hj
  obtain ⟨_, e, hc⟩ := h.get (j / 2) (by omega)
  cases e
  have := hc (j % 2) (by omega)
  rw [show j / 2 * 2 + j % 2 = j by omega] at this
  rw [this]
  by_cases hm : j % 2 = 0
  · rw [if_pos hm, hm]
  · rw [if_neg hm, show j % 2 = 1 by omega]
/-- Whole numbers in a row. -/
def flat1 (N : Nat → Int) (k : Nat) : List Value := (List.range k).map fun i => Value.int .i64 (N i)
theorem flat1_len (N : Nat → Int) (k : Nat) : (flat1 N k).length = k := by simp [flat1]
theorem flat1_get {N : Nat → Int} {k j : Nat} (h : j < k) : (flat1 N k)[j]? = some (.int .i64 (N j)) := by
  unfold flat1
  rw [List.getElem?_map, List.getElem?_range h]
  rfl
theorem flat1_inv {N : Nat → Int} {k j : Nat} {u : Value} (h : (flat1 N k)[j]? = some u) : j < k ∧ u = .int .i64 (N j) := by
  have hj : j < k := by
    have := (List.getElem?_eq_some_iff.1 h).1
    rw [flat1_len] at this
    exact this
  rw [flat1_get hj] at h
  exact ⟨hj, (Option.some.inj h).symm⟩
theorem flat1_one (N : Nat → Int) (k : Nat) : ∀ u ∈ flat1 N k, u.oneCell' = true := by
  intro u hu
  obtain ⟨j, hj⟩ := List.getElem?_of_mem hu
  rw [(flat1_inv hj).2]
  rfl
theorem Zs.cells1 {a : Addr} {n : Nat} {Y : Nat → Nat → Int} {w : World} (h : Zs (some a) n 1 Y w) : ∀ j u, (flat1 (Y · 0) n)[j]? = some u → w.cell? (a.add j) = some u := by
  intro j u hj
  obtain ⟨hl, rfl⟩ := flat1_inv hj
  obtain ⟨_, e, hc⟩ := h.get j hl
  cases e
  have := hc 0 (by omega)
  rw [Nat.mul_one, Nat.add_zero] at this
  exact this
theorem zs_own1 {w : World} {base : Nat} {V : Value} {k : Nat} {Y : Nat → Nat → Int} {t : TypeId} (h : w.ownsRow base t 1 V k (flat1 (Y · 0) k)) : ∃ p c, V = .slice p k c ∧ Zs p k 1 Y w := by
  have h' := h
  rcases h.2 with ⟨rfl, rfl⟩ | ⟨g, cap, cur, rfl, _⟩
  · exact ⟨none, 0, rfl, ⟨fun i hi => by omega⟩⟩
  · refine ⟨_, cap, rfl, ⟨fun i hi => ⟨_, rfl, fun j hj => ?_⟩⟩⟩
    obtain rfl : j = 0 := by omega
    rw [Nat.mul_one, Nat.add_zero]
    exact h'.cells rfl _ _ (flat1_get hi)
theorem zs_own2 {w : World} {base : Nat} {V : Value} {k : Nat} {Z : Nat → Nat → Int} {t : TypeId} (h : w.ownsRow base t 2 V k (flat2 (Z · 0) (Z · 1) k)) : ∃ p c, V = .slice p k c ∧ Zs p k 2 Z w := by
  have h' := h
  rcases h.2 with ⟨rfl, rfl⟩ | ⟨g, cap, cur, rfl, _⟩
  · exact ⟨none, 0, rfl, ⟨fun i hi => by omega⟩⟩
  · refine ⟨_, cap, rfl, ⟨fun i hi => ⟨_, rfl, fun j hj => ?_⟩⟩⟩
    obtain ⟨h1, h2⟩ := flat2_get (Z · 0) (Z · 1) k i hi
    match j, hj with
    | 0, _ => exact h'.cells rfl _ _ h1
    | 1, _ => exact h'.cells rfl _ _ h2
/-- A copy of whole numbers. -/
def CopyZ (n : Nat) (Y : Nat → Nat → Int) (w : World) (E : Ending) (w' : World) : Prop := ∃ p c, E = .returned (.slice p n c) ∧ Zs p n 1 Y w' ∧ Below w.heap.size w w'
set_option maxHeartbeats 1000000 in
theorem copyInts_any (q : Option Addr) (n cap : Nat) (Y : Nat → Nat → Int) (hp : q = none → n = 0 ∧ cap = 0) (hn : n ≤ 1000) (w : World) (hy : Zs q n 1 Y w) :
    Calls Tryz.prog 25 #[.slice q n cap] w fun E w' => CopyZ n Y w E w' := by
  cases q with
  | none =>
    obtain ⟨rfl, rfl⟩ := hp rfl
    clear hy
    go_enter Tryz.func25, Tryz.ntmps25
    repeat' (first | go_values | go_skip | go_guarded | go_step | go_upon | (simp only []; go_simp))
    go_ret
    exact ⟨_, _, rfl, ⟨fun i hi => by omega⟩, blw⟩
  | some a =>
    have hc := hy.cells1
    obtain ⟨i, hi, hz0, hz1, hz2⟩ := int_row
    have b1 : 0 + n ≤ maxLen := by unfold maxLen; omega
    have b2 : (0 + n) * 8 ≤ 140737488355328 := by omega
    have b3 : w.heap.size ≤ (w.alloc (.cells #[] 3)).heap.size := by simp
    have H := Lib.hid (And.intro (flat1_len (Y · 0) n) (And.intro b1 (And.intro b2 b3)))
    clear b1 b2 b3 hy hn hp
    go_enter Tryz.func25, Tryz.ntmps25
    go_wp2_with (at_builtin; refine wpList_append_own _ rfl _ _ 51 rfl w.heap.size 3 i _ 1 8 Tryz.underlying51 hi hz0 hz1 hz2 rfl (by decide) _ 0 [] rfl (World.ownsRow_made w #[] 0 (Nat.le_refl _) (by decide) rfl) a n cap (flat1 (Y · 0) n) rfl (by rw [Nat.mul_one]; exact H.out.1) (copy_cells hc _) (flat1_one _ _) H.out.2.1 H.out.2.2.1 H.out.2.2.2 ?_)
    intro v' w1 hown hgrow hnil
    have K : ∃ p c, v' = .slice p n c ∧ Zs p n 1 Y w1 := by
      exact zs_own1 hown
    have hb1 : Below w.heap.size w w1 := grown_bel (v := Value.slice (some ⟨w.heap.size, 0, none⟩) 0 0) (show Below w.heap.size w _ from blw) hgrow (fun b hb => by cases hb; exact Nat.le_refl _)
    obtain ⟨p', c', rfl, K⟩ := K
    have K := Lib.hid K
    clear hown hgrow hnil hc hi hz0 hz1 hz2 H
    go_wp2
    (with_reducible show bodyPost _ _ _ _ _ _); refine bodyPost_ret (by simp [results, Tryz.results25, go_sem, *]; first | done | rfl) rfl ?_
    exact ⟨p', c', rfl, K.out, hb1⟩
theorem owns_made {w : World} {g base size : Nat} {t : TypeId} (hg : w.heap.size = g) (hb : base ≤ g) : (w.alloc (.cells #[] t)).ownsRow base t size (.slice (some ⟨g, 0, none⟩) 0 0) 0 [] := by
  subst hg
  exact World.ownsRow_made w #[] 0 hb (by decide) (by simp)
theorem pair_row : ∃ i, (Tryz.prog.info? 67) = some i ∧ i.zero = some (.agg #[.int .i64 0, .int .i64 0]) ∧ i.size = 2 ∧ i.bytes = 16 := info_parts (by kernel_rfl)

set_option maxHeartbeats 4000000 in
theorem fracs_same (p q : Option Addr) (n cp cq : Nat) (N D : Nat → Int) (hn : n ≤ 1000000) (w : World) (h1 : Fr p n N D w) (h2 : Fr q n N D w) :
    Calls Tryz.prog 29 #[.slice p n cp, .slice q n cq] w fun E w' => E = .returned (.bool true) ∧ Below w.heap.size w w' := by
  have c0 : ((n : Int) != n) = false := by simp
  go_enter Tryz.func29, Tryz.ntmps29
  go_wp2_with fail
  go_loopw [5] (fun i wr => ∃ k : Nat, k ≤ n ∧ i = .int .i64 k ∧ Below w.heap.size w wr) (fun i _ => n - (intOf i).toNat)
  case atStart => exact ⟨0, by omega, rfl, blw⟩
  case round =>
    obtain ⟨k, hk, rfl, hb_wr⟩ := hrel
    by_cases hlt : k < n
    · obtain ⟨a, ha, E1, E2⟩ := (h1.bel hb_wr).get k hlt
      obtain ⟨a', ha', F1, F2⟩ := (h2.bel hb_wr).get k hlt
      subst ha; subst ha'
      rw [← add_off] at E2 F2
      have hlt2 : (k : Int) < n := by omega
      clear h1 h2
      generalize N k = x at *
      generalize D k = y at *
      go_wp2_with fail
      first | (go_region_held3 (fun w' => w'.cell? (a.add (k * 2)) = some (.int .i64 x) ∧ w'.cell? ⟨(a.add (k * 2)).block, (a.add (k * 2)).off + 1, none⟩ = some (.int .i64 y) ∧ w'.cell? (a'.add (k * 2)) = some (.int .i64 x) ∧ w'.cell? ⟨(a'.add (k * 2)).block, (a'.add (k * 2)).off + 1, none⟩ = some (.int .i64 y)) (simp [*, go_sem]) (fail)) | fail "held"
      go_wp2_with fail
      go_roundw
      case rel => exact ⟨k + 1, by omega, by first | (simp; done) | (simp; omega), blw⟩
      case measure => simp [intOf]; omega
    · obtain rfl : k = n := by omega
      have hlt2 : ¬ ((k : Int) < k) := by omega
      clear h1 h2
      repeat' (first | go_values | go_skip | go_guarded | go_step | go_upon | (simp only []; go_simp))
      go_ret
      exact ⟨rfl, blw⟩
/-- The bounds of the last sum. -/
theorem against_bd (c m : Nat → Int) (A B : Int) (k : Nat) (h : ∀ i, i < k → (-A ≤ m i ∧ m i ≤ A) ∧ (-B ≤ c i ∧ c i ≤ B)) : -(k * (A * B)) ≤ against c m k ∧ against c m k ≤ k * (A * B) := by
  induction k with
  | zero => simp [against]
  | succ k ih =>
    obtain ⟨h1, h2⟩ := ih (fun i hi => h i (by omega))
    obtain ⟨⟨a1, a2⟩, ⟨b1, b2⟩⟩ := h k (by omega)
    have p := prod_bd a1 a2 b1 b2
    have e : ((k + 1 : Nat) : Int) * (A * B) = k * (A * B) + A * B := by push_cast; grind
    rw [e]
    simp only [against]
    omega
theorem last_bd {r s v : Nat → Int} {n : Nat} (hn : n ≤ 5) (h : ∀ i, i < n → (-20 ≤ r i ∧ r i ≤ 20) ∧ (-20 ≤ s i ∧ s i ≤ 20) ∧ (-20 ≤ v i ∧ v i ≤ 20)) :
    (sums r s v n).den ≤ 4000000 ∧ ∀ i, i < n → -400000000 ≤ miss r s v n i ∧ miss r s v n i ≤ 400000000 := by
  have b := sums_bd r s v 20 n h
  have hk : (n : Int) * (20 * 20) ≤ 2000 := by omega
  generalize (n : Int) * (20 * 20) = M at *
  obtain ⟨h1, h2, h3, h4, h5⟩ := b
  have b1 := prod_bd (by omega : -2000 ≤ (sums r s v n).x) (by omega : (sums r s v n).x ≤ 2000) (by omega : -2000 ≤ (sums r s v n).yy) (by omega : (sums r s v n).yy ≤ 2000)
  have b2 := prod_bd (by omega : -2000 ≤ (sums r s v n).y) (by omega : (sums r s v n).y ≤ 2000) (by omega : -2000 ≤ (sums r s v n).xy) (by omega : (sums r s v n).xy ≤ 2000)
  have b3 := prod_bd (by omega : -2000 ≤ (sums r s v n).y) (by omega : (sums r s v n).y ≤ 2000) (by omega : -2000 ≤ (sums r s v n).xx) (by omega : (sums r s v n).xx ≤ 2000)
  have b4 := prod_bd (by omega : -2000 ≤ (sums r s v n).x) (by omega : (sums r s v n).x ≤ 2000) (by omega : -2000 ≤ (sums r s v n).xy) (by omega : (sums r s v n).xy ≤ 2000)
  have b5 := prod_bd (by omega : -2000 ≤ (sums r s v n).xx) (by omega : (sums r s v n).xx ≤ 2000) (by omega : -2000 ≤ (sums r s v n).yy) (by omega : (sums r s v n).yy ≤ 2000)
  have nn := den_nonneg r s v n
  have q0 : 0 ≤ (sums r s v n).xy * (sums r s v n).xy := by
    rcases Int.le_total 0 (sums r s v n).xy with h | h
    · exact Int.mul_nonneg h h
    · exact Int.mul_nonneg_of_nonpos_of_nonpos h h
  have ha : -8000000 ≤ (sums r s v n).a ∧ (sums r s v n).a ≤ 8000000 := by unfold Sums.a; omega
  have hb : -8000000 ≤ (sums r s v n).b ∧ (sums r s v n).b ≤ 8000000 := by unfold Sums.b; omega
  have hd : (sums r s v n).den ≤ 4000000 := by unfold Sums.den; omega
  refine ⟨hd, fun i hi => ?_⟩
  obtain ⟨g1, g2, g3⟩ := h i hi
  have c1 := prod_bd g3.1 g3.2 (by omega : -4000000 ≤ (sums r s v n).den) hd
  have c2 := prod_bd ha.1 ha.2 g1.1 g1.2
  have c3 := prod_bd hb.1 hb.2 g2.1 g2.2
  unfold miss
  omega
end Go.Proofs.YtjbfaaolfonmaaaGreat

