/- Boxes around layers: what they are, and the errors. -/
import Derived.Test.YtnljkhlmdacfaaaGreatDoorKEnd
import Derived.Test.YtnljkhlmdacfaaaGreatDoorKFit
namespace Go.Proofs.YtnljkhlmdacfaaaGreatDoor
open Go Go.Sort Go.RowKit

/-- Layer i is right. -/
def layB (Z : Nat → Nat → Int) (i : Nat) : Bool := inR (Z i 0) 5000 80000 && inR (Z i 1) 0 80000 && inR (Z i 2) 0 1000000
/-- What its thickness may be off. -/
@[irreducible] def moreT (Z : Nat → Nat → Int) (th : Int) (i : Nat) : Int := up (Z i 2 * th) 1000
def fitB (Z : Nat → Nat → Int) (th : Int) (i : Nat) : Bool := decide (Z i 2 + moreT Z th i ≤ 1000000)
def allTo (p : Nat → Bool) (k : Nat) : Bool := (List.range k).all p
theorem allTo_spec {p : Nat → Bool} {k : Nat} : allTo p k = true ↔ ∀ j, j < k → p j = true := by
  unfold allTo
  simp [List.all_eq_true]
theorem allTo_zero (p : Nat → Bool) : allTo p 0 = true := rfl
theorem allTo_next {p : Nat → Bool} {k : Nat} (h : allTo p k = true) (h1 : p k = true) : allTo p (k + 1) = true := allTo_spec.2 fun j hj => by
  by_cases e : j = k
  · rw [e]; exact h1
  · exact allTo_spec.1 h j (by omega)
theorem allTo_no {p : Nat → Bool} {k n : Nat} (hk : k < n) (h1 : p k = false) : allTo p n = false := by
  cases h : allTo p n
  · rfl
  · rw [allTo_spec.1 h k hk] at h1; exact absurd h1 (by decide)
def boxK (Z : Nat → Nat → Int) (th : Int) (i : Nat) : Box := ⟨Z i 0, Z i 0, max 0 (Z i 2 - moreT Z th i), Z i 2 + moreT Z th i, Z i 1⟩
def rowK (Z : Nat → Nat → Int) (th : Int) (k : Nat) : List Box := (List.range k).map (boxK Z th)
theorem rowK_len (Z : Nat → Nat → Int) (th : Int) (k : Nat) : (rowK Z th k).length = k := by simp [rowK]
theorem rowK_get {Z : Nat → Nat → Int} {th : Int} {k j : Nat} (h : j < k) : (rowK Z th k)[j]? = some (boxK Z th j) := by simp [rowK, h]
theorem rowK_cells (Z : Nat → Nat → Int) (th : Int) (k : Nat) : cellsOf (rowK Z th (k + 1)) = cellsOf (rowK Z th k) ++ (boxK Z th k).five := by
  unfold cellsOf rowK
  rw [List.range_succ, List.map_append, List.flatMap_append]
  simp
/-- The error. -/
@[irreducible] def bxQ (n : Nat) (Z : Nat → Nat → Int) (th : Int) : Int :=
  if 40 < n then 8 else if allTo (layB Z) n = false then 2 else if inR th 0 1000 = false then 2 else if allTo (fitB Z th) n = false then 8 else 0
section
variable {n : Nat} {Z : Nat → Nat → Int} {th : Int}
theorem bxQ_large (h : 40 < n) : bxQ n Z th = 8 := by unfold bxQ; rw [if_pos h]
theorem bxQ_lay (h : ¬ 40 < n) {k : Nat} (hk : k < n) (h1 : layB Z k = false) : bxQ n Z th = 2 := by unfold bxQ; rw [if_neg h, if_pos (allTo_no hk h1)]
theorem bxQ_th (h : ¬ 40 < n) (h1 : allTo (layB Z) n = true) (h2 : inR th 0 1000 = false) : bxQ n Z th = 2 := by unfold bxQ; rw [if_neg h, if_neg (by rw [h1]; decide), if_pos h2]
theorem bxQ_fit (h : ¬ 40 < n) (h1 : allTo (layB Z) n = true) (h2 : inR th 0 1000 = true) {k : Nat} (hk : k < n) (h3 : fitB Z th k = false) : bxQ n Z th = 8 := by
  unfold bxQ; rw [if_neg h, if_neg (by rw [h1]; decide), if_neg (by rw [h2]; decide), if_pos (allTo_no hk h3)]
theorem bxQ_ok (h : ¬ 40 < n) (h1 : allTo (layB Z) n = true) (h2 : inR th 0 1000 = true) (h3 : allTo (fitB Z th) n = true) : bxQ n Z th = 0 := by
  unfold bxQ; rw [if_neg h, if_neg (by rw [h1]; decide), if_neg (by rw [h2]; decide), if_neg (by rw [h3]; decide)]
theorem bxQ_zero (h : bxQ n Z th = 0) : n ≤ 40 ∧ allTo (layB Z) n = true ∧ inR th 0 1000 = true ∧ allTo (fitB Z th) n = true := by
  by_cases c1 : 40 < n
  · rw [bxQ_large c1] at h; exact absurd h (by decide)
  · cases c2 : allTo (layB Z) n
    · unfold bxQ at h; rw [if_neg c1, if_pos c2] at h; exact absurd h (by decide)
    · cases c3 : inR th 0 1000
      · rw [bxQ_th c1 c2 c3] at h; exact absurd h (by decide)
      · cases c4 : allTo (fitB Z th) n
        · unfold bxQ at h; rw [if_neg c1, if_neg (by rw [c2]; decide), if_neg (by rw [c3]; decide), if_pos c4] at h; exact absurd h (by decide)
        · exact ⟨by omega, rfl, rfl, rfl⟩
/-- What is handed back. -/
def BoxRet (n : Nat) (Z : Nat → Nat → Int) (th : Int) (w : World) (E : Ending) (w' : World) : Prop :=
  (∃ (p : Option Addr) (m c : Nat), E = .returned (.tuple #[.slice p m c, .int .i64 (bxQ n Z th)]) ∧ (¬ bxQ n Z th = 0 → p = none ∧ m = 0 ∧ c = 0) ∧ (bxQ n Z th = 0 → m = n ∧ Row p (rowK Z th n) w')) ∧ Below w.heap.size w w'
theorem boxRet_bad {q : Int} {w w' : World} (h : bxQ n Z th = q) (hq : ¬ q = 0) (hb : Below w.heap.size w w') : BoxRet n Z th w (.returned (.tuple #[.slice none 0 0, .int .i64 q])) w' :=
  ⟨⟨none, 0, 0, by rw [h], fun _ => ⟨rfl, rfl, rfl⟩, fun h0 => absurd (h.symm.trans h0) hq⟩, hb⟩
theorem boxRet_ok {V : Value} {N : Nat} {w w' : World} (h : bxQ n Z th = 0) (ho : w'.ownsRow N 52 5 V n (cellsOf (rowK Z th n))) (hb : Below w.heap.size w w') : BoxRet n Z th w (.returned (.tuple #[V, .int .i64 0])) w' := by
  refine ⟨?_, hb⟩
  by_cases hv : V = .slice none 0 0
  · subst hv
    have h0 : n = 0 := by
      rcases ho.2 with ⟨_, h1⟩ | ⟨g, cap, cur, h1, _⟩
      · have := ho.1
        rw [h1] at this
        simp at this
        omega
      · cases h1
    subst h0
    exact ⟨none, 0, 0, by rw [h], fun _ => ⟨rfl, rfl, rfl⟩, fun _ => ⟨rfl, ⟨fun j b hj => by simp [rowK] at hj⟩⟩⟩
  · obtain ⟨g, cap, rfl, hO⟩ := own_boxes ho hv
    rw [rowK_len]
    exact ⟨_, n, cap, by rw [h], fun h1 => absurd h h1, fun _ => ⟨rfl, hO.row⟩⟩
/-- A layer's numbers. -/
theorem lay_nums {k : Nat} (h : allTo (layB Z) n = true) (hk : k < n) : 0 ≤ Z k 2 ∧ Z k 2 ≤ 1000000 := by
  have := allTo_spec.1 h k hk
  unfold layB at this
  simp only [Bool.and_eq_true] at this
  exact inR_yes.1 this.2
theorem more_nums {k : Nat} (h : allTo (layB Z) n = true) (hk : k < n) (h2 : inR th 0 1000 = true) : (0 ≤ Z k 2 * th ∧ Z k 2 * th ≤ 1000000000) ∧ 0 ≤ moreT Z th k ∧ moreT Z th k ≤ 1000000 := by
  obtain ⟨t0, t1⟩ := lay_nums h hk
  obtain ⟨a0, a1⟩ := inR_yes.1 h2
  have p0 : 0 ≤ Z k 2 * th := Int.mul_nonneg t0 a0
  have p1 : Z k 2 * th ≤ 1000000 * 1000 := Int.mul_le_mul t1 a1 a0 (by decide)
  refine ⟨⟨p0, by omega⟩, ?_⟩
  unfold moreT up
  generalize Z k 2 * th = x at *
  omega
end
theorem lay_yes {Z : Nat → Nat → Int} {i : Nat} (h0 : inR (Z i 0) 5000 80000 = true) (h1 : inR (Z i 1) 0 80000 = true) (h2 : inR (Z i 2) 0 1000000 = true) : layB Z i = true := by unfold layB; rw [h0, h1, h2]; rfl
theorem lay_no0 {Z : Nat → Nat → Int} {i : Nat} (h0 : inR (Z i 0) 5000 80000 = false) : layB Z i = false := by unfold layB; rw [h0]; rfl
theorem lay_no1 {Z : Nat → Nat → Int} {i : Nat} (h0 : inR (Z i 1) 0 80000 = false) : layB Z i = false := by unfold layB; rw [h0, Bool.and_false]; rfl
theorem lay_no2 {Z : Nat → Nat → Int} {i : Nat} (h0 : inR (Z i 2) 0 1000000 = false) : layB Z i = false := by unfold layB; rw [h0, Bool.and_false]
theorem fit_yes {Z : Nat → Nat → Int} {th : Int} {i : Nat} (h : Z i 2 + moreT Z th i ≤ 1000000) : fitB Z th i = true := by unfold fitB; simpa using h
theorem fit_no {Z : Nat → Nat → Int} {th : Int} {i : Nat} (h : ¬ Z i 2 + moreT Z th i ≤ 1000000) : fitB Z th i = false := by unfold fitB; simpa using h
theorem add_off2' (a : Addr) (k : Nat) : (⟨(a.add k).block, (a.add k).off + 2, none⟩ : Addr) = a.add (k + 2) := by
  unfold Addr.add
  by_cases h : k = 0
  · rw [h]; simp
  · simp [h]; omega
theorem five_cell (a b c d e : Int) : ∀ u ∈ [Value.int .i64 a, .int .i64 b, .int .i64 c, .int .i64 d, .int .i64 e], u.oneCell' = true := by
  intro u hu
  simp at hu
  rcases hu with rfl | rfl | rfl | rfl | rfl <;> rfl
theorem cell_five_at {w : World} {g : Nat} (hg : w.heap.size = g) (x0 x1 x2 x3 x4 : Value) (t : TypeId) : ∀ j u, [x0, x1, x2, x3, x4][j]? = some u → (w.alloc (.cells #[x0, x1, x2, x3, x4] t)).cell? ((⟨g, 0, none⟩ : Addr).add j) = some u := by
  subst hg
  intro j u hj
  match j, hj with
  | 0, hj => simp at hj; subst hj; simp [Addr.add]
  | 1, hj => simp at hj; subst hj; simp [Addr.add]
  | 2, hj => simp at hj; subst hj; simp [Addr.add]
  | 3, hj => simp at hj; subst hj; simp [Addr.add]
  | 4, hj => simp at hj; subst hj; simp [Addr.add]
end Go.Proofs.YtnljkhlmdacfaaaGreatDoor
