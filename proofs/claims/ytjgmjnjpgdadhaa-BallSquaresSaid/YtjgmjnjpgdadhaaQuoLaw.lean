/- Plain laws on whole numbers: quotients rounded to the nearest, from the sizes. No program in sight. -/
import Derived.Test.YtjgmjnjpgdadhaaRef
namespace Go.Proofs.Ytjgmjnjpgdadhaa
/-- The quotient of the opposite, rounded. -/
theorem round_neg {a b : Int} (hb : 0 < b) : (2 * -a + b) / (2 * b) = -(if b < 2 * (a % b) then a / b + 1 else a / b) ∧ ((-a) % b = 0 ↔ a % b = 0) := by
  have h1 := Int.mul_ediv_add_emod a b
  have h2 := Int.emod_nonneg a (show b ≠ 0 by omega)
  have h3 := Int.emod_lt_of_pos a hb
  rw [round_eq hb]
  by_cases h0 : a % b = 0
  · have e := (Int.ediv_emod_unique (a := -a) (b := b) (r := 0) (q := -(a / b)) hb).2 ⟨by rw [Int.mul_neg]; omega, by omega, by omega⟩
    rw [e.1, e.2, h0]
    exact ⟨by rw [if_neg (by omega), if_neg (by omega)], by simp⟩
  · have e := (Int.ediv_emod_unique (a := -a) (b := b) (r := b - a % b) (q := -(a / b) - 1) hb).2 ⟨by rw [Int.mul_sub, Int.mul_neg]; omega, by omega, by omega⟩
    rw [e.1, e.2]
    refine ⟨?_, by omega⟩
    by_cases h : b < 2 * (a % b)
    · rw [if_neg (by omega), if_pos h]; omega
    · rw [if_pos (by omega), if_neg h]; omega

/-- From the size, with its quotient and its rest, to the quotient of a number, rounded. -/
theorem round_size {N b : Int} {u rest : Nat} (hb : 0 < b) (hu : (u : Int) = (N.natAbs : Int) / b) (hr : (rest : Int) = (N.natAbs : Int) % b) :
    (2 * N + b) / (2 * b) = (if 0 ≤ N then (if b ≤ 2 * rest then (u : Int) + 1 else u) else -(if b < 2 * (rest : Int) then (u : Int) + 1 else u)) ∧ (N % b != 0) = (rest != 0) := by
  by_cases h : 0 ≤ N
  · rw [if_pos h]
    rw [show (N.natAbs : Int) = N by omega] at hu hr
    rw [round_eq hb, hu, hr]
    refine ⟨?_, ?_⟩
    · by_cases c : b ≤ 2 * (N % b)
      · rw [if_pos (by omega), if_pos c]
      · rw [if_neg (by omega), if_neg c]
    · rw [Bool.eq_iff_iff]; simp; omega
  · rw [if_neg h]
    have e : -((N.natAbs : Int)) = N := by omega
    have k := round_neg (a := (N.natAbs : Int)) hb
    rw [e] at k
    rw [k.1, hu, hr]
    refine ⟨rfl, ?_⟩
    have := k.2
    rw [Bool.eq_iff_iff]; simp; omega

/-- Rounded up. -/
theorem up_size {N b : Int} (hb : 0 < b) : -(-N / b) = if N % b = 0 then N / b else N / b + 1 := by
  have h1 := Int.mul_ediv_add_emod N b
  have h2 := Int.emod_nonneg N (show b ≠ 0 by omega)
  have h3 := Int.emod_lt_of_pos N hb
  by_cases h0 : N % b = 0
  · have e := (Int.ediv_emod_unique (a := -N) (b := b) (r := 0) (q := -(N / b)) hb).2 ⟨by rw [Int.mul_neg]; omega, by omega, by omega⟩
    rw [if_pos h0, e.1]; omega
  · have e := (Int.ediv_emod_unique (a := -N) (b := b) (r := b - N % b) (q := -(N / b) - 1) hb).2 ⟨by rw [Int.mul_sub, Int.mul_neg]; omega, by omega, by omega⟩
    rw [if_neg h0, e.1]; omega
end Go.Proofs.Ytjgmjnjpgdadhaa
