/- Copies of rows of layers. -/
import Derived.Test.YtnljkhlmdacfaaaGreatDoorBoxedLaw
import Derived.Test.YtnljkhlmdacfaaaGreatDoorKEnd
namespace Go.Proofs.YtnljkhlmdacfaaaGreatDoor
open Go Go.Sort Go.RowKit

/-- Three whole numbers each, in a row. -/
def flatY (Z : Nat → Nat → Int) (k : Nat) : List Value := (List.range k).flatMap fun i => [Value.int .i64 (Z i 0), Value.int .i64 (Z i 1), Value.int .i64 (Z i 2)]
theorem flatY_next (Z : Nat → Nat → Int) (k : Nat) : flatY Z (k + 1) = flatY Z k ++ [.int .i64 (Z k 0), .int .i64 (Z k 1), .int .i64 (Z k 2)] := by
  unfold flatY
  rw [List.range_succ, List.flatMap_append]
  rfl
theorem flatY_len (Z : Nat → Nat → Int) (k : Nat) : (flatY Z k).length = k * 3 := by
  induction k with
  | zero => rfl
  | succ k ih => rw [flatY_next, List.length_append, ih]; simp; omega
theorem flatY_get (Z : Nat → Nat → Int) (k i j : Nat) (hi : i < k) (hj : j < 3) : (flatY Z k)[i * 3 + j]? = some (.int .i64 (Z i j)) := by
  induction k with
  | zero => omega
  | succ k ih =>
    have hl := flatY_len Z k
    rw [flatY_next]
    by_cases hk : i < k
    · rw [List.getElem?_append_left (by omega)]
      exact ih hk
    · obtain rfl : i = k := by omega
      rw [List.getElem?_append_right (by omega), hl, Nat.add_sub_cancel_left]
      match j, hj with
      | 0, _ => rfl
      | 1, _ => rfl
      | 2, _ => rfl
theorem flatY_inv {Z : Nat → Nat → Int} {k j : Nat} {u : Value} (h : (flatY Z k)[j]? = some u) : j < k * 3 ∧ u = .int .i64 (Z (j / 3) (j % 3)) := by
  have hj : j < k * 3 := by
    have := (List.getElem?_eq_some_iff.1 h).1
    rw [flatY_len] at this
    exact this
  have := flatY_get Z k (j / 3) (j % 3) (by omega) (by omega)
  rw [show j / 3 * 3 + j % 3 = j by omega, h] at this
  exact ⟨hj, Option.some.inj this⟩
theorem flatY_one (Z : Nat → Nat → Int) (k : Nat) : ∀ u ∈ flatY Z k, u.oneCell' = true := by
  intro u hu
  obtain ⟨j, hj⟩ := List.getElem?_of_mem hu
  rw [(flatY_inv hj).2]
  rfl
theorem Zs.cellsL {a : Addr} {n : Nat} {Z : Nat → Nat → Int} {w : World} (h : Zs (some a) n 3 Z w) : ∀ j u, (flatY Z n)[j]? = some u → w.cell? (a.add j) = some u := by
  intro j u hj
  obtain ⟨hl, rfl⟩ := flatY_inv hj
  obtain ⟨_, e, hc⟩ := h.get (j / 3) (by omega)
  cases e
  have := hc (j % 3) (by omega)
  rw [show j / 3 * 3 + j % 3 = j by omega] at this
  exact this
theorem zs_ownL {w : World} {base : Nat} {V : Value} {k : Nat} {Z : Nat → Nat → Int} {t : TypeId} (h : w.ownsRow base t 3 V k (flatY Z k)) : ∃ p c, V = .slice p k c ∧ Zs p k 3 Z w := by
  have h' := h
  rcases h.2 with ⟨rfl, rfl⟩ | ⟨g, cap, cur, rfl, _⟩
  · exact ⟨none, 0, rfl, ⟨fun i hi => by omega⟩⟩
  · exact ⟨_, cap, rfl, ⟨fun i hi => ⟨_, rfl, fun j hj => h'.cells rfl _ _ (flatY_get Z k i j hi hj)⟩⟩⟩
theorem lay_info : ∃ i, (Tryz.prog.info? 80) = some i ∧ i.zero = some (.agg #[.int .i64 0, .int .i64 0, .int .i64 0]) ∧ i.size = 3 ∧ i.bytes = 24 := info_parts (by kernel_rfl)
/-- A copy of layers. -/
def CopyL (n : Nat) (Z : Nat → Nat → Int) (w : World) (E : Ending) (w' : World) : Prop := ∃ p c, E = .returned (.slice p n c) ∧ Zs p n 3 Z w' ∧ Below w.heap.size w w'
set_option maxHeartbeats 1000000 in
theorem copyLays_any (q : Option Addr) (n cap : Nat) (Z : Nat → Nat → Int) (hp : q = none → n = 0 ∧ cap = 0) (hn : n ≤ 1000) (w : World) (hy : Zs q n 3 Z w) :
    Calls Tryz.prog 37 #[.slice q n cap] w fun E w' => CopyL n Z w E w' := by
  cases q with
  | none =>
    obtain ⟨rfl, rfl⟩ := hp rfl
    clear hy
    go_enter Tryz.func37, Tryz.ntmps37
    repeat' (first | go_values | go_skip | go_guarded | go_step | go_upon | (simp only []; go_simp))
    go_ret
    exact ⟨_, _, rfl, ⟨fun i hi => by omega⟩, blw⟩
  | some a =>
    have hc := hy.cellsL
    obtain ⟨i, hi, hz0, hz1, hz2⟩ := lay_info
    have b1 : 0 + n ≤ maxLen := by unfold maxLen; omega
    have b2 : (0 + n) * 24 ≤ 140737488355328 := by omega
    have b3 : w.heap.size ≤ (w.alloc (.cells #[] 80)).heap.size := by simp
    have H := Lib.hid (And.intro (flatY_len Z n) (And.intro b1 (And.intro b2 b3)))
    clear b1 b2 b3 hy hn hp
    go_enter Tryz.func37, Tryz.ntmps37
    go_wp2_with (at_builtin; refine wpList_append_own _ rfl _ _ 72 rfl w.heap.size 80 i _ 3 24 Tryz.underlying72 hi hz0 hz1 hz2 rfl (by decide) _ 0 [] rfl (World.ownsRow_made w #[] 0 (Nat.le_refl _) (by decide) rfl) a n cap (flatY Z n) rfl H.out.1 (copy_cells hc _) (flatY_one _ _) H.out.2.1 H.out.2.2.1 H.out.2.2.2 ?_)
    intro v' w1 hown hgrow hnil
    have K : ∃ p c, v' = .slice p n c ∧ Zs p n 3 Z w1 := zs_ownL hown
    have hb1 : Below w.heap.size w w1 := grown_bel (v := Value.slice (some ⟨w.heap.size, 0, none⟩) 0 0) (show Below w.heap.size w _ from blw) hgrow (fun b hb => by cases hb; exact Nat.le_refl _)
    obtain ⟨p', c', rfl, K⟩ := K
    have K := Lib.hid K
    clear hown hgrow hnil hc hi hz0 hz1 hz2 H
    go_wp2
    (with_reducible show bodyPost _ _ _ _ _ _); refine bodyPost_ret (by simp [results, Tryz.results37, go_sem, *]; first | done | rfl) rfl ?_
    exact ⟨p', c', rfl, K.out, hb1⟩
end Go.Proofs.YtnljkhlmdacfaaaGreatDoor
