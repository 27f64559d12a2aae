/- The walk of the reference's reading of a numeral. -/
import Derived.Test.YtjgmjnjpgdadhaaGreatDoorProg
import Derived.Test.YtjgmjnjpgdadhaaGreatDoorNumber
import Derived.Test.YtjgmjnjpgdadhaaGreatDoorKCalm
import Derived.Test.YtjgmjnjpgdadhaaGreatDoorKNum
import Derived.OwnWalk
namespace Go.Proofs.YtjgmjnjpgdadhaaGreatDoor
open Go.RowKit Go

/-- What is read so far. -/
def Reading (ds : List UInt8) (k m : Nat) : Prop := Lib.decFrom 0 (ds.take k) = some m ∧ m < 10 ^ k
theorem Reading.start (ds : List UInt8) : Reading ds 0 0 := ⟨rfl, by decide⟩
theorem Reading.next {ds : List UInt8} {k m : Nat} (h : Reading ds k m) (hk : k < ds.length) (h1 : 48 ≤ ds[k].toNat) (h2 : ds[k].toNat ≤ 57) : Reading ds (k + 1) (10 * m + (ds[k].toNat - 48)) := by
  obtain ⟨a, b⟩ := h
  refine ⟨?_, by rw [Nat.pow_succ]; omega⟩
  rw [List.take_succ_eq_append_getElem hk, decFrom_snoc, a]
  unfold Lib.digitVal
  rw [if_pos ⟨h1, h2⟩]
  show some (m * 10 + (ds[k].toNat - 48)) = _
  congr 1; omega
theorem Reading.fail {ds : List UInt8} {k : Nat} (hk : k < ds.length) (h1 : ds[k].toNat < 48 ∨ 57 < ds[k].toNat) : Lib.decNat ds = none := by
  unfold Lib.decNat
  split
  · rfl
  · cases h : Lib.decFrom 0 ds with
    | none => rfl
    | some n =>
      obtain ⟨d, hd⟩ := Lib.digit_of_decFrom ds 0 n h k ds[k] (List.getElem?_eq_getElem hk)
      unfold Lib.digitVal at hd
      rw [if_neg (by omega)] at hd
      cases hd
theorem Reading.done {ds : List UInt8} {m : Nat} (h : Reading ds ds.length m) (hn : ds ≠ []) : Lib.decNat ds = some m := by
  unfold Lib.decNat
  rw [if_neg (by simpa using hn)]
  have := h.1
  rwa [List.take_length] at this
theorem Reading.small {ds : List UInt8} {k m : Nat} (h : Reading ds k m) (hk : k ≤ 17) : (m : Int) < 100000000000000000 := by
  have h2 := Nat.pow_le_pow_right (show 0 < 10 by decide) hk
  have := h.2
  have e : (10 : Nat) ^ 17 = 100000000000000000 := by decide
  omega

/-- The result of reading a numeral. -/
def numV (l : List UInt8) (D : Int) : Value := match numL l D.toNat with
  | some v => .tuple #[.int .i64 v, .bool true]
  | none => .tuple #[.int .i64 0, .bool false]
theorem numV_none {l : List UInt8} {D : Int} (h : numL l D.toNat = none) : numV l D = .tuple #[.int .i64 0, .bool false] := by unfold numV; rw [h]
theorem numV_some {l : List UInt8} {D v : Int} (h : numL l D.toNat = some v) : numV l D = .tuple #[.int .i64 v, .bool true] := by unfold numV; rw [h]

theorem numL_plain {a : UInt8} {r : List UInt8} {d : Nat} (h : a ≠ 45) : numL (a :: r) d = if d < (a :: r).length ∨ (a = 48 ∧ r ≠ []) then none else (Lib.decNat (a :: r)).map fun (m : Nat) => (m : Int) := by
  unfold numL
  have e : ¬ (a :: r).head? = some 45 := fun k => h (by simpa using k)
  simp only [if_neg e]
  have e2 : (a :: r = [] ∨ d < (a :: r).length ∨ (a :: r).head? = some 48 ∧ 1 < (a :: r).length) ↔ (d < (a :: r).length ∨ (a = 48 ∧ r ≠ [])) := by
    cases r <;> simp
  by_cases c : d < (a :: r).length ∨ (a = 48 ∧ r ≠ [])
  · rw [if_pos (e2.2 c), if_pos c]
  · rw [if_neg (fun k => c (e2.1 k)), if_neg c]
theorem numL_minus {r : List UInt8} {d : Nat} : numL (45 :: r) d = if r = [] ∨ d < r.length ∨ r.head? = some 48 then none else (Lib.decNat r).map fun (m : Nat) => -(m : Int) := by
  unfold numL
  simp only [List.head?_cons, if_true, List.tail_cons]
  have e2 : (r = [] ∨ d < r.length ∨ r.head? = some 48 ∧ 1 < (45 :: r).length) ↔ (r = [] ∨ d < r.length ∨ r.head? = some 48) := by
    cases r <;> simp
  by_cases c : r = [] ∨ d < r.length ∨ r.head? = some 48
  · rw [if_pos (e2.2 c), if_pos c]
  · rw [if_neg (fun k => c (e2.1 k)), if_neg c]

theorem list_of (s : ByteArray) : s.data.toList.length = s.size := by simp
theorem get_of (s : ByteArray) (k : Nat) (h : k < s.size) : s.data.toList[k]'(by rw [list_of]; exact h) = s[k] := by rw [Array.getElem_toList]; rfl
theorem bs_eq {a b : UInt8} (h : a = b) : ((a.toNat : Int) == (b.toNat : Int)) = true := by rw [h]; simp
theorem bs_ne {a b : UInt8} (h : a ≠ b) : ((a.toNat : Int) == (b.toNat : Int)) = false := by
  rw [beq_eq_false_iff_ne]; intro e; exact h (UInt8.toNat_inj.1 (by omega))

set_option maxRecDepth 100000 in
set_option maxHeartbeats 2000000 in
theorem number_empty (s : ByteArray) (D : Int) (w : World) (_hD1 : 0 ≤ D) (_hD2 : D ≤ 17) (_hs : s.size ≤ 1000000) (h0 : s.size = 0) :
    Calls Tryz.prog 49 #[.string s, .int .i64 D] w fun e w' => e = .returned (numV s.data.toList D) ∧ w' = w := by
  have hl : s.data.toList = [] := List.length_eq_zero_iff.1 (by rw [list_of]; exact h0)
  have HL := Lib.hid (show numL s.data.toList D.toNat = none from by rw [hl]; unfold numL; simp)
  clear hl
  go_enter Tryz.func49, Tryz.ntmps49
  go_wp2
  go_ret2
  refine ⟨?_, rfl⟩
  rw [numV_none HL.out]
  try rfl

set_option maxRecDepth 100000 in
set_option maxHeartbeats 2000000 in
theorem number_plain (s : ByteArray) (D : Int) (w : World) (hD1 : 0 ≤ D) (hD2 : D ≤ 17) (hs : s.size ≤ 1000000) (h0 : 0 < s.size) (h45 : s[0] ≠ 45) :
    Calls Tryz.prog 49 #[.string s, .int .i64 D] w fun e w' => e = .returned (numV s.data.toList D) ∧ w' = w := by
  obtain ⟨a, r, hl⟩ : ∃ a r, s.data.toList = a :: r := by
    cases h : s.data.toList with
    | nil => have := list_of s; rw [h] at this; simp at this; omega
    | cons a r => exact ⟨a, r, rfl⟩
  have hlen := list_of s
  have ha : s[0] = a := by rw [← get_of s 0 h0]; simp [hl]
  have e := numL_plain (a := a) (r := r) (d := D.toNat) (by rw [← ha]; exact h45)
  rw [← hl, hlen] at e
  have t0 := bs_ne h45
  rw [show (((45 : UInt8).toNat : Nat) : Int) = 45 from rfl] at t0
  have t2 : ((s.size : Int) == 0) = false := by rw [beq_eq_false_iff_ne]; omega
  have t3 : ((0 : Int) == 1) = false := by decide
  by_cases hc : D < (s.size : Int)
  · have HL := Lib.hid (show numL s.data.toList D.toNat = none from by rw [e, if_pos (.inl (by omega))])
    clear e hl hlen ha h45
    go_enter Tryz.func49, Tryz.ntmps49
    go_wp2
    go_ret2
    refine ⟨?_, rfl⟩
    rw [numV_none HL.out]
    try rfl
  have hc' : (s.size : Int) ≤ D := by omega
  by_cases h48 : s[0] = 48
  · have t1 := bs_eq h48
    rw [show (((48 : UInt8).toNat : Nat) : Int) = 48 from rfl] at t1
    by_cases h2 : 1 < s.size
    · have HL := Lib.hid (show numL s.data.toList D.toNat = none from by
        rw [e, if_pos (.inr ⟨by rw [← ha]; exact h48, by intro k; rw [hl, k] at hlen; simp at hlen; omega⟩)])
      clear e hl hlen ha h45 h48
      go_enter Tryz.func49, Tryz.ntmps49
      go_wp2
      go_ret2
      refine ⟨?_, rfl⟩
      rw [numV_none HL.out]
      try rfl
    · have h2' : s.size ≤ 1 := by omega
      have HL := Lib.hid (show numL s.data.toList D.toNat = (Lib.decNat (s.data.toList.drop 0)).map fun (m : Nat) => (m : Int) from by
        rw [e, if_neg (by rintro (k | ⟨_, k⟩); omega; exact k (by rw [hl] at hlen; cases r with | nil => rfl | cons b q => simp at hlen; omega)), List.drop_zero])
      clear e hl hlen ha h45 h48
      go_enter Tryz.func49, Tryz.ntmps49
      go_wp2_with fail
      go_loop [7, 8] (fun n i => ∃ (k : Nat) (m : Int), 0 ≤ k ∧ k ≤ s.size ∧ 0 ≤ m ∧ Hid (Reading (s.data.toList.drop 0) (k - 0) m.toNat) ∧ n = .int .i64 m ∧ i = .int .i64 k) (fun _ i => s.size - (intOf i).toNat)
      case atStart => exact ⟨0, 0, by omega, by omega, by omega, Lib.hid (Reading.start _), rfl, rfl⟩
      case round =>
        obtain ⟨k, m, hk0, hk, hm0, HR, rfl, rfl⟩ := hrel
        have hm : m < 100000000000000000 := by have := HR.out.small (by have := hD2; omega); omega
        by_cases hlt : k < s.size
        · have hkl : k - 0 < (s.data.toList.drop 0).length := by rw [List.length_drop, list_of]; omega
          have hg : (s.data.toList.drop 0)[k - 0] = (s[k]'hlt) := by
            rw [List.getElem_drop, ← get_of s k hlt]
            congr 1; omega
          by_cases h1 : 48 ≤ (s[k]'hlt).toNat
          · by_cases h2 : (s[k]'hlt).toNat ≤ 57
            · have HR' := Lib.hid (HR.out.next hkl (by rw [hg]; exact h1) (by rw [hg]; exact h2))
              rw [hg, show k - 0 + 1 = k + 1 - 0 by omega] at HR'
              clear hg hkl
              go_wp2
              go_round
              case rel => exact ⟨k + 1, 10 * m + ((s[k]'hlt).toNat - 48), by omega, by omega, by omega, Lib.hid (by rw [show (10 * m + (((s[k]'hlt).toNat : Int) - 48)).toNat = 10 * m.toNat + ((s[k]'hlt).toNat - 48) by omega]; exact HR'.out), by first | rfl | (congr 1; omega), by first | rfl | simp⟩
              case measure => simp [intOf]; omega
            · have HF := Lib.hid (Reading.fail hkl (by rw [hg]; omega))
              have h2' : 57 < (s[k]'hlt).toNat := by omega
              clear hg hkl
              go_wp2
              go_ret2
              refine ⟨?_, rfl⟩
              rw [numV_none (by rw [HL.out, HF.out]; rfl)]
              try rfl
          · have HF := Lib.hid (Reading.fail hkl (by rw [hg]; omega))
            have h1' : (s[k]'hlt).toNat < 48 := by omega
            clear hg hkl
            go_wp2
            go_ret2
            refine ⟨?_, rfl⟩
            rw [numV_none (by rw [HL.out, HF.out]; rfl)]
            try rfl
        · have HV := Lib.hid (show Lib.decNat (s.data.toList.drop 0) = some m.toNat from by
            have h := HR.out
            rw [show k - 0 = (s.data.toList.drop 0).length by rw [List.length_drop, list_of]; omega] at h
            exact h.done (by intro e; have h9 := congrArg List.length e; rw [List.length_drop, list_of, List.length_nil] at h9; omega))
          go_wp2
          go_ret2
          refine ⟨?_, rfl⟩
          rw [numV_some (v := m) (by rw [HL.out, HV.out]; simp; omega)]
          try rfl
  · have t1 := bs_ne h48
    rw [show (((48 : UInt8).toNat : Nat) : Int) = 48 from rfl] at t1
    have HL := Lib.hid (show numL s.data.toList D.toNat = (Lib.decNat (s.data.toList.drop 0)).map fun (m : Nat) => (m : Int) from by
      rw [e, if_neg (by rintro (k | ⟨k, _⟩); omega; exact h48 (by rw [ha]; exact k)), List.drop_zero])
    clear e hl hlen ha h45 h48
    go_enter Tryz.func49, Tryz.ntmps49
    go_wp2_with fail
    go_loop [7, 8] (fun n i => ∃ (k : Nat) (m : Int), 0 ≤ k ∧ k ≤ s.size ∧ 0 ≤ m ∧ Hid (Reading (s.data.toList.drop 0) (k - 0) m.toNat) ∧ n = .int .i64 m ∧ i = .int .i64 k) (fun _ i => s.size - (intOf i).toNat)
    case atStart => exact ⟨0, 0, by omega, by omega, by omega, Lib.hid (Reading.start _), rfl, rfl⟩
    case round =>
      obtain ⟨k, m, hk0, hk, hm0, HR, rfl, rfl⟩ := hrel
      have hm : m < 100000000000000000 := by have := HR.out.small (by have := hD2; omega); omega
      by_cases hlt : k < s.size
      · have hkl : k - 0 < (s.data.toList.drop 0).length := by rw [List.length_drop, list_of]; omega
        have hg : (s.data.toList.drop 0)[k - 0] = (s[k]'hlt) := by
          rw [List.getElem_drop, ← get_of s k hlt]
          congr 1; omega
        by_cases h1 : 48 ≤ (s[k]'hlt).toNat
        · by_cases h2 : (s[k]'hlt).toNat ≤ 57
          · have HR' := Lib.hid (HR.out.next hkl (by rw [hg]; exact h1) (by rw [hg]; exact h2))
            rw [hg, show k - 0 + 1 = k + 1 - 0 by omega] at HR'
            clear hg hkl
            go_wp2
            go_round
            case rel => exact ⟨k + 1, 10 * m + ((s[k]'hlt).toNat - 48), by omega, by omega, by omega, Lib.hid (by rw [show (10 * m + (((s[k]'hlt).toNat : Int) - 48)).toNat = 10 * m.toNat + ((s[k]'hlt).toNat - 48) by omega]; exact HR'.out), by first | rfl | (congr 1; omega), by first | rfl | simp⟩
            case measure => simp [intOf]; omega
          · have HF := Lib.hid (Reading.fail hkl (by rw [hg]; omega))
            have h2' : 57 < (s[k]'hlt).toNat := by omega
            clear hg hkl
            go_wp2
            go_ret2
            refine ⟨?_, rfl⟩
            rw [numV_none (by rw [HL.out, HF.out]; rfl)]
            try rfl
        · have HF := Lib.hid (Reading.fail hkl (by rw [hg]; omega))
          have h1' : (s[k]'hlt).toNat < 48 := by omega
          clear hg hkl
          go_wp2
          go_ret2
          refine ⟨?_, rfl⟩
          rw [numV_none (by rw [HL.out, HF.out]; rfl)]
          try rfl
      · have HV := Lib.hid (show Lib.decNat (s.data.toList.drop 0) = some m.toNat from by
          have h := HR.out
          rw [show k - 0 = (s.data.toList.drop 0).length by rw [List.length_drop, list_of]; omega] at h
          exact h.done (by intro e; have h9 := congrArg List.length e; rw [List.length_drop, list_of, List.length_nil] at h9; omega))
        go_wp2
        go_ret2
        refine ⟨?_, rfl⟩
        rw [numV_some (v := m) (by rw [HL.out, HV.out]; simp; omega)]
        try rfl

set_option maxRecDepth 100000 in
set_option maxHeartbeats 2000000 in
theorem number_minus (s : ByteArray) (D : Int) (w : World) (hD1 : 0 ≤ D) (hD2 : D ≤ 17) (hs : s.size ≤ 1000000) (h0 : 0 < s.size) (h45 : s[0] = 45) :
    Calls Tryz.prog 49 #[.string s, .int .i64 D] w fun e w' => e = .returned (numV s.data.toList D) ∧ w' = w := by
  obtain ⟨a, r, hl⟩ : ∃ a r, s.data.toList = a :: r := by
    cases h : s.data.toList with
    | nil => have := list_of s; rw [h] at this; simp at this; omega
    | cons a r => exact ⟨a, r, rfl⟩
  have hlen := list_of s
  have ha : s[0] = a := by rw [← get_of s 0 h0]; simp [hl]
  have ha' : a = 45 := by rw [← ha]; exact h45
  subst ha'
  have e := numL_minus (r := r) (d := D.toNat)
  have hr : r = s.data.toList.drop 1 := by rw [hl]; rfl
  have hrl : r.length + 1 = s.size := by rw [← hlen, hl]; simp
  rw [← hl] at e
  have t0 := bs_eq h45
  rw [show (((45 : UInt8).toNat : Nat) : Int) = 45 from rfl] at t0
  have t3 : ((1 : Int) == 1) = true := by decide
  by_cases h1 : s.size = 1
  · have HL := Lib.hid (show numL s.data.toList D.toNat = none from by rw [e, if_pos (.inl (List.length_eq_zero_iff.1 (by omega)))])
    have t2 : ((s.size : Int) == 1) = true := by rw [h1]; rfl
    clear e hl hlen ha h45 hr hrl h1
    go_enter Tryz.func49, Tryz.ntmps49
    go_wp2
    go_ret2
    refine ⟨?_, rfl⟩
    rw [numV_none HL.out]
    try rfl
  have t2 : ((s.size : Int) == 1) = false := by rw [beq_eq_false_iff_ne]; omega
  have h1' : 1 < s.size := by omega
  by_cases hc : D < (s.size : Int) - 1
  · have HL := Lib.hid (show numL s.data.toList D.toNat = none from by rw [e, if_pos (.inr (.inl (by omega)))])
    clear e hl hlen ha h45 hr hrl h1
    go_enter Tryz.func49, Tryz.ntmps49
    go_wp2
    go_ret2
    refine ⟨?_, rfl⟩
    rw [numV_none HL.out]
    try rfl
  have hc' : (s.size : Int) - 1 ≤ D := by omega
  have hb : s[1] = (s.data.toList.drop 1)[0]'(by rw [List.length_drop, hlen]; omega) := by rw [List.getElem_drop, ← get_of s 1 h1']
  by_cases h48 : s[1] = 48
  · have t1 := bs_eq h48
    rw [show (((48 : UInt8).toNat : Nat) : Int) = 48 from rfl] at t1
    have HL := Lib.hid (show numL s.data.toList D.toNat = none from by
      rw [e, if_pos (.inr (.inr (by rw [hr, List.head?_eq_getElem?, List.getElem?_eq_getElem (by rw [List.length_drop, hlen]; omega), ← hb, h48])))])
    clear e hl hlen ha h45 hr hrl h1 hb h48
    go_enter Tryz.func49, Tryz.ntmps49
    go_wp2
    go_ret2
    refine ⟨?_, rfl⟩
    rw [numV_none HL.out]
    try rfl
  · have t1 := bs_ne h48
    rw [show (((48 : UInt8).toNat : Nat) : Int) = 48 from rfl] at t1
    have HL := Lib.hid (show numL s.data.toList D.toNat = (Lib.decNat (s.data.toList.drop 1)).map fun (m : Nat) => -(m : Int) from by
      rw [e, if_neg (by
        rintro (k | k | k)
        · rw [k] at hrl; simp at hrl; omega
        · omega
        · rw [hr, List.head?_eq_getElem?, List.getElem?_eq_getElem (by rw [List.length_drop, hlen]; omega), ← hb] at k
          exact h48 (by simpa using k)), hr])
    clear e hl hlen ha h45 hr hrl h1 hb h48
    go_enter Tryz.func49, Tryz.ntmps49
    go_wp2_with fail
    go_loop [7, 8] (fun n i => ∃ (k : Nat) (m : Int), 1 ≤ k ∧ k ≤ s.size ∧ 0 ≤ m ∧ Hid (Reading (s.data.toList.drop 1) (k - 1) m.toNat) ∧ n = .int .i64 m ∧ i = .int .i64 k) (fun _ i => s.size - (intOf i).toNat)
    case atStart => exact ⟨1, 0, by omega, by omega, by omega, Lib.hid (Reading.start _), rfl, rfl⟩
    case round =>
      obtain ⟨k, m, hk0, hk, hm0, HR, rfl, rfl⟩ := hrel
      have hm : m < 100000000000000000 := by have := HR.out.small (by have := hD2; omega); omega
      by_cases hlt : k < s.size
      · have hkl : k - 1 < (s.data.toList.drop 1).length := by rw [List.length_drop, list_of]; omega
        have hg : (s.data.toList.drop 1)[k - 1] = (s[k]'hlt) := by
          rw [List.getElem_drop, ← get_of s k hlt]
          congr 1; omega
        by_cases h1 : 48 ≤ (s[k]'hlt).toNat
        · by_cases h2 : (s[k]'hlt).toNat ≤ 57
          · have HR' := Lib.hid (HR.out.next hkl (by rw [hg]; exact h1) (by rw [hg]; exact h2))
            rw [hg, show k - 1 + 1 = k + 1 - 1 by omega] at HR'
            clear hg hkl
            go_wp2
            go_round
            case rel => exact ⟨k + 1, 10 * m + ((s[k]'hlt).toNat - 48), by omega, by omega, by omega, Lib.hid (by rw [show (10 * m + (((s[k]'hlt).toNat : Int) - 48)).toNat = 10 * m.toNat + ((s[k]'hlt).toNat - 48) by omega]; exact HR'.out), by first | rfl | (congr 1; omega), by first | rfl | simp⟩
            case measure => simp [intOf]; omega
          · have HF := Lib.hid (Reading.fail hkl (by rw [hg]; omega))
            have h2' : 57 < (s[k]'hlt).toNat := by omega
            clear hg hkl
            go_wp2
            go_ret2
            refine ⟨?_, rfl⟩
            rw [numV_none (by rw [HL.out, HF.out]; rfl)]
            try rfl
        · have HF := Lib.hid (Reading.fail hkl (by rw [hg]; omega))
          have h1' : (s[k]'hlt).toNat < 48 := by omega
          clear hg hkl
          go_wp2
          go_ret2
          refine ⟨?_, rfl⟩
          rw [numV_none (by rw [HL.out, HF.out]; rfl)]
          try rfl
      · have HV := Lib.hid (show Lib.decNat (s.data.toList.drop 1) = some m.toNat from by
          have h := HR.out
          rw [show k - 1 = (s.data.toList.drop 1).length by rw [List.length_drop, list_of]; omega] at h
          exact h.done (by intro e; have h9 := congrArg List.length e; rw [List.length_drop, list_of, List.length_nil] at h9; omega))
        go_wp2
        go_ret2
        refine ⟨?_, rfl⟩
        rw [numV_some (v := -m) (by rw [HL.out, HV.out]; simp; omega)]
        try rfl

theorem Number_any (s : ByteArray) (D : Int) (w : World) (hD1 : 0 ≤ D) (hD2 : D ≤ 17) (hs : s.size ≤ 1000000) :
    Calls Tryz.prog 49 #[.string s, .int .i64 D] w fun e w' => e = .returned (numV s.data.toList D) ∧ w' = w := by
  by_cases h0 : s.size = 0
  · exact number_empty s D w hD1 hD2 hs h0
  · by_cases h : s[0] = 45
    · exact number_minus s D w hD1 hD2 hs (by omega) h
    · exact number_plain s D w hD1 hD2 hs (by omega) h
end Go.Proofs.YtjgmjnjpgdadhaaGreatDoor
