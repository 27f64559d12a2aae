/- Plain laws: a text cut at a byte. No program in sight. -/
import Derived.Lib.SplitLaws
import Derived.Lib.IndexBytes
namespace Go.Proofs.YtjgmjnjpgdadhaaGreatDoor
open Go

/-- A text, cut at a byte. -/
def cutL (c : UInt8) : List UInt8 → List (List UInt8)
  | [] => [[]]
  | a :: r => if a = c then [] :: cutL c r else match cutL c r with | [] => [[a]] | w :: ws => (a :: w) :: ws

theorem cutL_ne (c : UInt8) (l : List UInt8) : cutL c l ≠ [] := by
  cases l with
  | nil => simp [cutL]
  | cons a r =>
    unfold cutL
    split
    · simp
    · split <;> simp
theorem cutL_length (c : UInt8) (l : List UInt8) : (cutL c l).length = l.count c + 1 := by
  induction l with
  | nil => rfl
  | cons a r ih =>
    unfold cutL
    by_cases h : a = c
    · rw [if_pos h, List.length_cons, ih, h, List.count_cons_self]
    · rw [if_neg h, List.count_cons_of_ne h, ← ih]
      cases hr : cutL c r with
      | nil => exact absurd hr (cutL_ne c r)
      | cons w ws => rfl

theorem split_cut (c : UInt8) (l : List UInt8) : Lib.splitK [c] 0 (l.count c) l = cutL c l := by
  induction l with
  | nil => rfl
  | cons a r ih =>
    by_cases h : a = c
    · subst h
      rw [List.count_cons_self]
      unfold cutL Lib.splitK
      rw [if_pos rfl, Lib.index_one]
      unfold Lib.indexByte
      simp
      exact ih
    · rw [List.count_cons_of_ne h]
      unfold cutL
      rw [if_neg h, ← ih]
      have hi : Lib.index (a :: r) [c] = if Lib.index r [c] == -1 then -1 else Lib.index r [c] + 1 := by
        rw [Lib.index_one, Lib.index_one]
        conv => lhs; unfold Lib.indexByte
        rw [if_neg (by simpa using h)]
      cases hk : r.count c with
      | zero => rfl
      | succ k =>
        unfold Lib.splitK
        rw [hi]
        by_cases hm : (Lib.index r [c] == -1) = true
        · rw [if_pos hm, if_pos hm, if_pos (by decide)]
        · have hg := Lib.index_ge r [c]
          have hne : ¬ Lib.index r [c] = -1 := by simpa using hm
          rw [if_neg hm, if_neg hm, if_neg (by simp; omega)]
          have e : (Lib.index r [c] + 1).toNat = (Lib.index r [c]).toNat + 1 := by omega
          rw [e]
          simp

theorem cut_len (c : UInt8) (l : List UInt8) : ∀ q ∈ cutL c l, q.length ≤ l.length := by
  induction l with
  | nil => intro q hq; simp [cutL] at hq; simp [hq]
  | cons a r ih =>
    intro q hq
    unfold cutL at hq
    split at hq
    · rcases List.mem_cons.1 hq with rfl | h
      · simp
      · have := ih q h; simp; omega
    · split at hq
      · simp at hq; simp [hq]
      · rename_i w ws e
        rw [e] at ih
        rcases List.mem_cons.1 hq with rfl | h
        · have := ih w (by simp); simp; omega
        · have := ih q (by simp [h]); simp; omega

theorem split_words (s : ByteArray) (c : UInt8) : (Lib.splitB ⟨#[c]⟩ 0 (Lib.countB s ⟨#[c]⟩) s).map (·.data.toList) = cutL c s.data.toList := by
  rw [Lib.splitB_data]
  show Lib.splitK [c] 0 (Lib.count s.data.toList [c]) s.data.toList = _
  rw [Lib.count_one, split_cut]
theorem split_count (s : ByteArray) (c : UInt8) : Lib.countB s ⟨#[c]⟩ + 1 = (cutL c s.data.toList).length := by
  rw [cutL_length]
  show Lib.count s.data.toList [c] + 1 = _
  rw [Lib.count_one]

theorem cutL_snoc (c a : UInt8) (l : List UInt8) : cutL c (l ++ [a]) = if a = c then cutL c l ++ [[]] else (cutL c l).dropLast ++ [(cutL c l).getLastD [] ++ [a]] := by
  induction l with
  | nil =>
    simp only [List.nil_append]
    unfold cutL
    by_cases h : a = c
    · rw [if_pos h, if_pos h]; rfl
    · rw [if_neg h, if_neg h]; rfl
  | cons b r ih =>
    simp only [List.cons_append]
    unfold cutL
    rw [ih]
    obtain ⟨w, ws, hr⟩ : ∃ w ws, cutL c r = w :: ws := by
      cases hr : cutL c r with
      | nil => exact absurd hr (cutL_ne c r)
      | cons w ws => exact ⟨w, ws, rfl⟩
    rw [hr]
    by_cases hb : b = c
    · simp only [if_pos hb]
      by_cases h : a = c
      · simp only [if_pos h]; rfl
      · simp only [if_neg h]; rfl
    · simp only [if_neg hb]
      by_cases h : a = c
      · simp only [if_pos h, List.cons_append]
      · simp only [if_neg h]
        cases ws with
        | nil => rfl
        | cons w2 w3 => rfl

/-- What is known in the middle: the words so far, and where the last one begins. -/
def Cutting (c : UInt8) (l : List UInt8) (k f : Nat) (ws : List (List UInt8)) : Prop := f ≤ k ∧ cutL c (l.take k) = ws ++ [(l.take k).drop f]

theorem Cutting.start (c : UInt8) (l : List UInt8) : Cutting c l 0 0 [] := ⟨Nat.le_refl _, rfl⟩
theorem Cutting.next {c : UInt8} {l : List UInt8} {k f : Nat} {ws : List (List UInt8)} (h : Cutting c l k f ws) (hk : k < l.length) (ha : l[k] ≠ c) : Cutting c l (k + 1) f ws := by
  obtain ⟨h1, h2⟩ := h
  refine ⟨by omega, ?_⟩
  rw [List.take_succ_eq_append_getElem hk, cutL_snoc, if_neg ha]
  rw [h2, List.dropLast_concat, List.getLastD_concat]
  rw [List.drop_append_of_le_length (by simp; omega)]
theorem Cutting.cut {c : UInt8} {l : List UInt8} {k f : Nat} {ws : List (List UInt8)} (h : Cutting c l k f ws) (hk : k < l.length) (ha : l[k] = c) : Cutting c l (k + 1) (k + 1) (ws ++ [(l.take k).drop f]) := by
  obtain ⟨h1, h2⟩ := h
  refine ⟨by omega, ?_⟩
  rw [List.take_succ_eq_append_getElem hk, cutL_snoc, if_pos ha, h2]
  rw [List.drop_of_length_le (i := k + 1) (by simp; omega)]
theorem Cutting.done {c : UInt8} {l : List UInt8} {f : Nat} {ws : List (List UInt8)} (h : Cutting c l l.length f ws) : cutL c l = ws ++ [l.drop f] := by
  have := h.2
  rwa [List.take_length] at this
end Go.Proofs.YtjgmjnjpgdadhaaGreatDoor

