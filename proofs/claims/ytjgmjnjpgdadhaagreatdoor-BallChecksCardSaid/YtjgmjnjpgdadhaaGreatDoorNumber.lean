/- Plain laws: decimal numerals: the ones that the library reads and writes back are those that the reference reads. No program in sight. -/
import Derived.Lib.AtoiTie
import Derived.Lib.ItoaNum
import Derived.Lib.Strings
namespace Go.Proofs.YtjgmjnjpgdadhaaGreatDoor
open Go

theorem digitVal_lt {b : UInt8} {d : Nat} (h : Lib.digitVal b = some d) : d < 10 ∧ b = UInt8.ofNat (48 + d) := by
  unfold Lib.digitVal at h
  split at h
  · rename_i hb
    have : b.toNat - 48 = d := by simpa using h
    refine ⟨by omega, ?_⟩
    apply UInt8.toNat_inj.1
    rw [UInt8.toNat_ofNat']
    omega
  · cases h
theorem digitVal_of {d : Nat} (h : d < 10) : Lib.digitVal (UInt8.ofNat (48 + d)) = some d := by
  unfold Lib.digitVal
  have e : (UInt8.ofNat (48 + d)).toNat = 48 + d := by rw [UInt8.toNat_ofNat']; omega
  rw [e, if_pos (by omega)]
  congr 1; omega

theorem decFrom_snoc (l : List UInt8) : ∀ (acc : Nat) (b : UInt8), Lib.decFrom acc (l ++ [b]) = (Lib.decFrom acc l).bind fun m => (Lib.digitVal b).map fun d => m * 10 + d := by
  induction l with
  | nil =>
    intro acc b
    simp only [List.nil_append, Lib.decFrom, Option.bind_some]
    cases Lib.digitVal b <;> rfl
  | cons a l ih =>
    intro acc b
    simp only [List.cons_append, Lib.decFrom]
    cases Lib.digitVal a with
    | none => rfl
    | some d => exact ih _ b

theorem dec_small {u : Nat} (h : u < 10) : Lib.decDigits u = [UInt8.ofNat (48 + u)] := by rw [Lib.decDigits, dif_pos h]
theorem dec_big {u : Nat} (h : ¬ u < 10) : Lib.decDigits u = Lib.decDigits (u / 10) ++ [UInt8.ofNat (48 + u % 10)] := by rw [Lib.decDigits, dif_neg h]

theorem dec_ne (u : Nat) : Lib.decDigits u ≠ [] := by
  by_cases h : u < 10
  · rw [dec_small h]; simp
  · rw [dec_big h]; simp

theorem dec_val (u : Nat) : Lib.decFrom 0 (Lib.decDigits u) = some u := by
  induction u using Nat.strongRecOn with
  | ind u ih =>
    by_cases h : u < 10
    · rw [dec_small h]
      simp only [Lib.decFrom, digitVal_of h]
      congr 1; omega
    · rw [dec_big h, decFrom_snoc, ih (u / 10) (by omega), digitVal_of (by omega)]
      show some (u / 10 * 10 + u % 10) = some u
      congr 1; omega

/-- The first digit is 0 in the numeral of 0 alone. -/
theorem dec_head (u : Nat) (h : (Lib.decDigits u).head? = some 48) : u = 0 := by
  induction u using Nat.strongRecOn with
  | ind u ih =>
    by_cases hu : u < 10
    · rw [dec_small hu] at h
      have h2 : UInt8.ofNat (48 + u) = 48 := by simpa using h
      have h3 := congrArg UInt8.toNat h2
      rw [UInt8.toNat_ofNat'] at h3
      have : (48 : UInt8).toNat = 48 := rfl
      omega
    · rw [dec_big hu, List.head?_append] at h
      have hn := dec_ne (u / 10)
      cases hd : (Lib.decDigits (u / 10)).head? with
      | none => exact absurd (List.head?_eq_none_iff.1 hd) hn
      | some a =>
        rw [hd] at h
        have ha : a = 48 := by simpa using h
        have := ih (u / 10) (by omega) (by rw [hd, ha])
        omega

theorem dec_digit (u : Nat) (b : UInt8) (h : (Lib.decDigits u).head? = some b) : 48 ≤ b.toNat ∧ b.toNat ≤ 57 := by
  have hv := dec_val u
  cases hl : Lib.decDigits u with
  | nil => rw [hl] at h; cases h
  | cons a r =>
    rw [hl] at h hv
    have : a = b := by simpa using h
    subst this
    simp only [Lib.decFrom] at hv
    cases hd : Lib.digitVal a with
    | none => rw [hd] at hv; cases hv
    | some d =>
      unfold Lib.digitVal at hd
      split at hd
      · assumption
      · cases hd

/-- A numeral without a leading 0 is that of its value. -/
theorem dec_unique : ∀ (n : Nat) (ds : List UInt8) (u : Nat), ds.length = n → ds ≠ [] → (ds.head? = some 48 → ds.length = 1) → Lib.decFrom 0 ds = some u → Lib.decDigits u = ds ∧ (ds.head? ≠ some 48 → 1 ≤ u) := by
  intro n
  induction n with
  | zero => intro ds u hn hne; exact absurd (List.length_eq_zero_iff.1 hn) hne
  | succ n ih =>
    intro ds u hn hne hz hv
    obtain ⟨init, b, rfl⟩ : ∃ init b, ds = init ++ [b] := ⟨ds.dropLast, ds.getLast hne, (List.dropLast_concat_getLast hne).symm⟩
    rw [decFrom_snoc] at hv
    cases hi : Lib.decFrom 0 init with
    | none => rw [hi] at hv; cases hv
    | some m =>
      rw [hi] at hv
      cases hd : Lib.digitVal b with
      | none => rw [hd] at hv; cases hv
      | some d =>
        rw [hd] at hv
        have hu : m * 10 + d = u := by simpa using hv
        obtain ⟨d10, hb⟩ := digitVal_lt hd
        cases init with
        | nil =>
          have hm : m = 0 := by simp [Lib.decFrom] at hi; exact hi.symm
          subst hm
          have hu2 : u = d := by omega
          subst hu2
          rw [dec_small d10, hb]
          refine ⟨rfl, fun h => ?_⟩
          by_cases h0 : u = 0
          · subst h0; exact absurd rfl h
          · omega
        | cons a r =>
          have hz' : (a :: r).head? ≠ some 48 := fun h => by
            have := hz (by simpa using h)
            simp at this
          have hl : (a :: r).length = n := by simp at hn ⊢; omega
          have ⟨h1, h2⟩ := ih (a :: r) m hl (by simp) (fun h => absurd h hz') hi
          have hm := h2 hz'
          have e1 : u / 10 = m := by omega
          have e2 : u % 10 = d := by omega
          rw [dec_big (by omega), e1, e2, h1, hb]
          exact ⟨rfl, fun _ => by omega⟩

/-- What the reference reads. -/
@[irreducible] def numL (l : List UInt8) (d : Nat) : Option Int :=
  if (if l.head? = some 45 then l.tail else l) = [] ∨ d < (if l.head? = some 45 then l.tail else l).length ∨ ((if l.head? = some 45 then l.tail else l).head? = some 48 ∧ 1 < l.length) then none
  else (Lib.decNat (if l.head? = some 45 then l.tail else l)).map fun (m : Nat) => if l.head? = some 45 then -(m : Int) else m

/-- What the program reads. -/
def okW (l : List UInt8) (d : Nat) (v : Int) : Prop := Lib.atoiAll l = .ok v ∧ Lib.itoa v = l ∧ (Lib.trimPrefix l [45]).length ≤ d

theorem trim_minus (r : List UInt8) : Lib.trimPrefix (45 :: r) [45] = r := by unfold Lib.trimPrefix Lib.hasPrefix; simp
theorem trim_other {a : UInt8} (r : List UInt8) (h : a ≠ 45) : Lib.trimPrefix (a :: r) [45] = a :: r := by
  unfold Lib.trimPrefix Lib.hasPrefix
  rw [if_neg]
  simp
  exact fun e => h e.symm

theorem decNat_dec (u : Nat) : Lib.decNat (Lib.decDigits u) = some u := by
  unfold Lib.decNat
  have := dec_ne u
  rw [if_neg (by simpa using this), dec_val]

theorem num_of_itoa (v : Int) (d : Nat) (h : (Lib.trimPrefix (Lib.itoa v) [45]).length ≤ d) : numL (Lib.itoa v) d = some v := by
  unfold numL
  by_cases hv : v < 0
  · have e : Lib.itoa v = 45 :: Lib.decDigits v.natAbs := by unfold Lib.itoa; rw [if_pos hv]
    rw [e, trim_minus] at h
    rw [e]
    simp only [List.head?_cons, if_true, List.tail_cons]
    have hne := dec_ne v.natAbs
    have hh : ¬ (Lib.decDigits v.natAbs).head? = some 48 := fun h0 => by have := dec_head _ h0; omega
    rw [if_neg (by rintro (h1 | h1 | ⟨h1, _⟩); exact hne h1; omega; exact hh h1), decNat_dec]
    simp; omega
  · have e : Lib.itoa v = Lib.decDigits v.toNat := by unfold Lib.itoa; rw [if_neg hv]
    have hne := dec_ne v.toNat
    have h45 : ¬ (Lib.decDigits v.toNat).head? = some 45 := fun h0 => by have := dec_digit _ _ h0; have : (45 : UInt8).toNat = 45 := rfl; omega
    rw [e] at h ⊢
    have et : Lib.trimPrefix (Lib.decDigits v.toNat) [45] = Lib.decDigits v.toNat := by
      cases hl : Lib.decDigits v.toNat with
      | nil => exact absurd hl hne
      | cons a r => exact trim_other r (fun ha => h45 (by rw [hl, ha]; rfl))
    rw [et] at h
    simp only [if_neg h45]
    rw [if_neg (by
      rintro (h1 | h1 | ⟨h1, h2⟩)
      · exact hne h1
      · omega
      · have := dec_head _ h1
        rw [this, dec_small (by omega)] at h2
        simp at h2), decNat_dec]
    simp; omega

theorem itoa_of_num {l : List UInt8} {d : Nat} {v : Int} (h : numL l d = some v) : Lib.itoa v = l ∧ (Lib.trimPrefix l [45]).length ≤ d ∧ Lib.atoi l = some v := by
  unfold numL at h
  cases l with
  | nil => simp at h
  | cons a r =>
    by_cases ha : a = 45
    · subst ha
      simp only [List.head?_cons, if_true, List.tail_cons] at h
      split at h
      · cases h
      · rename_i hc
        have h1 : r ≠ [] := fun e => hc (.inl e)
        have h2 : r.length ≤ d := by have := fun k => hc (.inr (.inl k)); omega
        have h3 : ¬ r.head? = some 48 := fun e => hc (.inr (.inr ⟨e, by
          cases r with
          | nil => exact absurd rfl h1
          | cons b s => simp⟩))
        cases hd : Lib.decNat r with
        | none => rw [hd] at h; cases h
        | some m =>
          rw [hd] at h
          have hm : -(m : Int) = v := by simpa using h
          have hf : Lib.decFrom 0 r = some m := by
            unfold Lib.decNat at hd
            rw [if_neg (by simpa using h1)] at hd
            exact hd
          have ⟨u1, u2⟩ := dec_unique _ r m rfl h1 (fun k => absurd k h3) hf
          have m1 := u2 h3
          refine ⟨?_, by rw [trim_minus]; exact h2, ?_⟩
          · unfold Lib.itoa
            rw [if_pos (by omega), show v.natAbs = m by omega, u1]
          · unfold Lib.atoi
            simp [hd, hm]
    · have h45 : ¬ (a :: r).head? = some 45 := fun e => ha (by simpa using e)
      simp only [if_neg h45] at h
      split at h
      · cases h
      · rename_i hc
        have h2 : (a :: r).length ≤ d := by have := fun k => hc (.inr (.inl k)); omega
        have h3 : (a :: r).head? = some 48 → (a :: r).length = 1 := fun e => by
          have := fun k => hc (.inr (.inr ⟨e, k⟩))
          simp at this ⊢
          cases r with
          | nil => rfl
          | cons b s => simp at this
        cases hd : Lib.decNat (a :: r) with
        | none => rw [hd] at h; cases h
        | some m =>
          rw [hd] at h
          have hm : (m : Int) = v := by simpa using h
          have hf : Lib.decFrom 0 (a :: r) = some m := by
            unfold Lib.decNat at hd
            rw [if_neg (by simp)] at hd
            exact hd
          have ⟨u1, _⟩ := dec_unique _ (a :: r) m rfl (by simp) h3 hf
          have dg : ∃ e, Lib.digitVal a = some e := Lib.digit_of_decFrom (a :: r) 0 m hf 0 a rfl
          have a43 : a ≠ 43 := fun e => by obtain ⟨x, hx⟩ := dg; rw [e] at hx; cases hx
          refine ⟨?_, by rw [trim_other r ha]; exact h2, ?_⟩
          · unfold Lib.itoa
            rw [if_neg (by omega), show v.toNat = m by omega, u1]
          · unfold Lib.atoi
            simp [ha, a43, hd, hm]

/-- BOTH READ THE SAME NUMERALS. -/
theorem ok_iff (l : List UInt8) (d : Nat) (hd : d ≤ 17) (v : Int) : okW l d v ↔ numL l d = some v := by
  constructor
  · rintro ⟨_, h2, h3⟩
    rw [← h2] at h3 ⊢
    exact num_of_itoa v d h3
  · intro h
    obtain ⟨h1, h2, h3⟩ := itoa_of_num h
    refine ⟨?_, h1, h2⟩
    have hl : l.length ≤ 18 := by
      cases l with
      | nil => simp
      | cons a r =>
        by_cases ha : a = 45
        · subst ha; rw [trim_minus] at h2; simp; omega
        · rw [trim_other r ha] at h2; omega
    rw [Lib.atoiAll_short l hl, h3]
    rfl
end Go.Proofs.YtjgmjnjpgdadhaaGreatDoor

