/- The walks of the parsing of balls. -/
import Derived.Test.YtjgmjnjpgdadhaaGreatDoorStd
import Derived.Test.YtjgmjnjpgdadhaaGreatDoorCutWalk
import Derived.Test.YtjgmjnjpgdadhaaGreatDoorNumWalk
import Derived.Test.YtjgmjnjpgdadhaaGreatDoorKAwake
namespace Go.Proofs.YtjgmjnjpgdadhaaGreatDoor
open Go.RowKit Go

/-- The ball of three numerals. -/
def parse3 (a b c : Option Int) : Res := match a, b, c with
  | some x, some y, some r => if Right x y r then .good x y r else .bad 2
  | _, _, _ => .bad 4
def parseM (l : List UInt8) : Res := match cutL 32 l with
  | [a, b, c] => parse3 (numL a 9) (numL b 9) (numL c 9)
  | _ => .bad 4
theorem parse3_n1 (b c : Option Int) : parse3 none b c = .bad 4 := by unfold parse3; rfl
theorem parse3_n2 (x : Int) (c : Option Int) : parse3 (some x) none c = .bad 4 := by unfold parse3; rfl
theorem parse3_n3 (x y : Int) : parse3 (some x) (some y) none = .bad 4 := by unfold parse3; rfl
theorem parse3_yes {x y r : Int} (h : Right x y r) : parse3 (some x) (some y) (some r) = .good x y r := by unfold parse3; exact if_pos h
theorem parse3_no {x y r : Int} (h : ¬ Right x y r) : parse3 (some x) (some y) (some r) = .bad 2 := by unfold parse3; exact if_neg h
theorem parseM_short {l : List UInt8} (h : (cutL 32 l).length ≠ 3) : parseM l = .bad 4 := by
  unfold parseM
  split
  · rename_i a b c e; rw [e] at h; exact absurd rfl h
  · rfl
theorem parseM_three {l a b c : List UInt8} (h : cutL 32 l = [a, b, c]) : parseM l = parse3 (numL a 9) (numL b 9) (numL c 9) := by unfold parseM; rw [h]

theorem num_flo {l : List UInt8} {v : Int} (h : numL l 9 = some v) : Flo v := by
  have hl : ∀ (ds : List UInt8) (m : Nat), Lib.decNat ds = some m → ds.length ≤ 9 → m < 1000000000 := fun ds m hd hn => by
    unfold Lib.decNat at hd
    split at hd
    · cases hd
    · have g : ∀ (n : Nat) (ds : List UInt8) (m : Nat), ds.length = n → Lib.decFrom 0 ds = some m → m < 10 ^ n := by
        intro n
        induction n with
        | zero => intro ds m hn hd; rw [List.length_eq_zero_iff.1 hn] at hd; simp [Lib.decFrom] at hd; omega
        | succ n ih =>
          intro ds m hn hd
          have hne : ds ≠ [] := by intro e; rw [e] at hn; simp at hn
          rw [← List.dropLast_concat_getLast hne, decFrom_snoc] at hd
          cases hi : Lib.decFrom 0 ds.dropLast with
          | none => rw [hi] at hd; cases hd
          | some u =>
            rw [hi] at hd
            cases hb : Lib.digitVal (ds.getLast hne) with
            | none => rw [hb] at hd; cases hd
            | some d =>
              rw [hb] at hd
              have hm : u * 10 + d = m := by simpa using hd
              have := ih ds.dropLast u (by rw [List.length_dropLast]; omega) hi
              have := (digitVal_lt hb).1
              rw [Nat.pow_succ]; omega
      have h1 := g ds.length ds m rfl hd
      have h2 := Nat.pow_le_pow_right (show 0 < 10 by decide) hn
      have e : (10 : Nat) ^ 9 = 1000000000 := by decide
      omega
  have hm : ∀ (ds : List UInt8) (sg : Bool) (c : Prop) [Decidable c], (¬ c → ds.length ≤ 9) → (if c then none else (Lib.decNat ds).map fun (m : Nat) => if sg then -(m : Int) else (m : Int)) = some v → Flo v := fun ds sg c _ hc h => by
    by_cases k : c
    · rw [if_pos k] at h; cases h
    · rw [if_neg k] at h
      cases hd : Lib.decNat ds with
      | none => rw [hd] at h; cases h
      | some m =>
        have := hl ds m hd (hc k)
        rw [hd] at h
        unfold Flo
        simp only [Option.map_some, Option.some.injEq] at h
        cases sg <;> simp at h <;> omega
  unfold numL at h
  refine hm (if l.head? = some 45 then l.tail else l) (decide (l.head? = some 45)) ((if l.head? = some 45 then l.tail else l) = [] ∨ 9 < (if l.head? = some 45 then l.tail else l).length ∨ ((if l.head? = some 45 then l.tail else l).head? = some 48 ∧ 1 < l.length)) (fun k => ?_) (by simpa using h)
  have := fun k2 => k (.inr (.inl k2))
  omega

set_option maxHeartbeats 400000 in
theorem CheckBall_any (x y r : Int) (w : World) (f1 : Flo x) (f2 : Flo y) :
    Calls Tryz.prog 11 #[.agg #[.complex .f64 (fl x) (fl y), .int .i64 r]] w fun e w' => e = .returned (.int .i64 (chk x y r)) ∧ Below w.heap.size w w' := by
  unfold chk
  by_cases h : Right x y r
  · rw [if_pos h]
    have C := Lib.hid (fun w => read_yes x y r w h.1 h.2.1 h.2.2)
    clear h
    go_enter Tryz.func11, Tryz.ntmps11
    go_wp2_with fail
    refine (C.out _).mono ?_
    rintro e w1 ⟨rfl, hb_w1⟩
    have hs_w1 := hb_w1.size
    (try simp at hs_w1)
    go_wp2
    go_ret
    exact ⟨rfl, (by repeat' (first | (with_reducible exact Below.refl _ _) | (with_reducible assumption) | (with_reducible refine bl_alloc ?_ _) | (with_reducible refine bl_drew ?_) | (with_reducible refine bl_drewN ?_) | (with_reducible refine bl_setCell ?_ ?_ _) | (with_reducible refine bl_call ?_ (by with_reducible assumption)) | omega | (simp; done) | (simp; omega)))⟩
  · rw [if_neg h]
    by_cases hf : Fits x y
    · have C := Lib.hid (fun w => read_no1 x y r w hf (by
        have : ¬ (0 ≤ r ∧ r ≤ 67108864) := fun h2 => h ⟨hf, h2⟩
        omega))
      clear h hf
      go_enter Tryz.func11, Tryz.ntmps11
      go_wp2_with fail
      refine (C.out _).mono ?_
      rintro e w1 ⟨rfl, hb_w1⟩
      have hs_w1 := hb_w1.size
      (try simp at hs_w1)
      go_wp2
      go_ret
      exact ⟨rfl, (by repeat' (first | (with_reducible exact Below.refl _ _) | (with_reducible assumption) | (with_reducible refine bl_alloc ?_ _) | (with_reducible refine bl_drew ?_) | (with_reducible refine bl_drewN ?_) | (with_reducible refine bl_setCell ?_ ?_ _) | (with_reducible refine bl_call ?_ (by with_reducible assumption)) | omega | (simp; done) | (simp; omega)))⟩
    · have C := Lib.hid (fun w => read_no2 x y r w f1 f2 hf)
      clear h hf
      go_enter Tryz.func11, Tryz.ntmps11
      go_wp2_with fail
      refine (C.out _).mono ?_
      rintro e w1 ⟨rfl, hb_w1⟩
      have hs_w1 := hb_w1.size
      (try simp at hs_w1)
      go_wp2
      go_ret
      exact ⟨rfl, (by repeat' (first | (with_reducible exact Below.refl _ _) | (with_reducible assumption) | (with_reducible refine bl_alloc ?_ _) | (with_reducible refine bl_drew ?_) | (with_reducible refine bl_drewN ?_) | (with_reducible refine bl_setCell ?_ ?_ _) | (with_reducible refine bl_call ?_ (by with_reducible assumption)) | omega | (simp; done) | (simp; omega)))⟩

/-- A text of three words, cut by the library. -/
theorem split_three (s : ByteArray) (hs : s.size ≤ 1000000) {a b c : List UInt8} (h : cutL 32 s.data.toList = [a, b, c]) :
    ∃ x y z : ByteArray, x.data.toList = a ∧ y.data.toList = b ∧ z.data.toList = c ∧ ∀ w, Std w → Calls Tryz.prog 44 #[.string s, .string { data := #[32] }] w fun e w' =>
      e = .returned (.slice (some ⟨w.heap.size, 0, none⟩) 3 3) ∧ w' = w.alloc (.cells #[.string x, .string y, .string z] 9) := by
  have hw := split_words s 32
  have hn := split_count s 32
  rw [h] at hw hn
  generalize hk : Lib.countB s { data := #[32] } = k at *
  match hl : Lib.splitB { data := #[32] } 0 k s, hw with
  | [x, y, z], hw =>
    simp only [List.map_cons, List.map_nil, List.cons.injEq, and_true] at hw
    refine ⟨x, y, z, hw.1, hw.2.1, hw.2.2, fun w hS => ?_⟩
    obtain ⟨m, hm⟩ := hS.max
    have t := Tryz.strings_Split s { data := #[32] } m w (by omega) hm (by decide)
    rw [hk, hl] at t
    have e3 : k + 1 = 3 := hn
    rw [e3] at t
    exact t
theorem split_other (s : ByteArray) (hs : s.size ≤ 1000000) (h : (cutL 32 s.data.toList).length ≠ 3) :
    ∃ n : Nat, n ≠ 3 ∧ ∀ w, Std w → Calls Tryz.prog 44 #[.string s, .string { data := #[32] }] w fun e w' => e = .returned (.slice (some ⟨w.heap.size, 0, none⟩) n n) ∧ Below w.heap.size w w' := by
  refine ⟨Lib.countB s { data := #[32] } + 1, by rw [split_count s 32]; exact h, fun w hS => ?_⟩
  obtain ⟨m, hm⟩ := hS.max
  exact (Tryz.strings_Split s { data := #[32] } m w (by omega) hm (by decide)).mono fun _ _ ⟨he, hw⟩ => ⟨he, by rw [hw]; exact (Below.refl _ w).alloc (Nat.le_refl _) _⟩

set_option maxRecDepth 100000 in
set_option maxHeartbeats 8000000 in
theorem parse_three (s : ByteArray) (w : World) (hS : Std w) (hs : s.size ≤ 1000000) {a b c : List UInt8} (h : cutL 32 s.data.toList = [a, b, c]) :
    Calls Tryz.prog 18 #[.string s] w fun e w' => e = .returned (out (parseM s.data.toList)) ∧ Below w.heap.size w w' := by
  obtain ⟨x, y, z, rfl, rfl, rfl, hsp⟩ := split_three s hs h
  have HM := Lib.hid (parseM_three h)
  have hx : ∀ q ∈ cutL 32 s.data.toList, q.length ≤ 1000000 := fun q hq => Nat.le_trans (cut_len _ _ _ hq) (by rw [list_of]; exact hs)
  rw [h] at hx
  have hx0 := hx x.data.toList (by simp)
  have hx1 := hx y.data.toList (by simp)
  have hx2 := hx z.data.toList (by simp)
  rw [list_of] at hx0 hx1 hx2
  have SP := Lib.hid hsp
  clear hsp h hx
  go_enter Tryz.func18, Tryz.ntmps18
  go_wp2_with fail
  refine (SP.out _ (hS.below (by repeat' (first | (with_reducible exact Below.refl _ _) | (with_reducible assumption) | (with_reducible refine bl_alloc ?_ _) | (with_reducible refine bl_drew ?_) | (with_reducible refine bl_drewN ?_) | (with_reducible refine bl_setCell ?_ ?_ _) | (with_reducible refine bl_call ?_ (by with_reducible assumption)) | omega | (simp; done) | (simp; omega))))).mono ?_
  rintro e w' ⟨rfl, rfl⟩
  go_wp2_with fail
  refine wp_loop_rounds 4 ?_
  rw [rounds_succ]
  rcases word_cases x 9 (by omega) with ⟨v0, n0, a0, i0, t0⟩ | ⟨n0, a0 | ⟨v0, a0, i0⟩ | ⟨v0, a0, i0, t0⟩⟩
  · have N0 := Lib.hid n0
    have A0 := Lib.hid a0
    have I0 := Lib.hid i0
    obtain ⟨z0, hz0, T0⟩ := trim_any x
    have bz0 : (z0.size : Int) ≤ 9 := by omega
    have bv0 := atoi_bounds a0
    obtain ⟨bl0, bh0⟩ := bv0
    have F0 := num_flo n0
    have HF0 := Lib.hid F0
    have HT0 := Lib.hid T0
    clear n0 a0 i0 t0 hz0 F0 T0
    go_wp2_with fail
    refine (atoi_ok x v0 _ (by omega) A0.out).mono ?_
    rintro e wa0 ⟨rfl, hb_wa0⟩
    have hs_wa0 := hb_wa0.size
    (try simp at hs_wa0)
    have hz_wa0_w : w.heap.size < wa0.heap.size := (by have hs := hb_wa0.size; (try simp at hs); omega)
    have hy_wa0_w : w.heap.size < wa0.heap.size + 1 := (by omega)
    have hx_wa0_w : w.heap.size < wa0.heap.size + 1 + 1 := (by omega)
    have hc_wa0_w := fun o => hb_wa0.cell (p := ⟨w.heap.size, o, none⟩) (by first | omega | (simp; done) | (simp; omega))
    have hf_wa0_w := fun o => hb_wa0.frozen (p := ⟨w.heap.size, o, none⟩) (by first | omega | (simp; done) | (simp; omega))
    have hz_wa0_wp1 : w.heap.size + 1 < wa0.heap.size := (by have hs := hb_wa0.size; (try simp at hs); omega)
    have hy_wa0_wp1 : w.heap.size + 1 < wa0.heap.size + 1 := (by omega)
    have hx_wa0_wp1 : w.heap.size + 1 < wa0.heap.size + 1 + 1 := (by omega)
    have hc_wa0_wp1 := fun o => hb_wa0.cell (p := ⟨w.heap.size + 1, o, none⟩) (by first | omega | (simp; done) | (simp; omega))
    have hf_wa0_wp1 := fun o => hb_wa0.frozen (p := ⟨w.heap.size + 1, o, none⟩) (by first | omega | (simp; done) | (simp; omega))
    have hz_wa0_wp2 : w.heap.size + 1 + 1 < wa0.heap.size := (by have hs := hb_wa0.size; (try simp at hs); omega)
    have hy_wa0_wp2 : w.heap.size + 1 + 1 < wa0.heap.size + 1 := (by omega)
    have hx_wa0_wp2 : w.heap.size + 1 + 1 < wa0.heap.size + 1 + 1 := (by omega)
    have hc_wa0_wp2 := fun o => hb_wa0.cell (p := ⟨w.heap.size + 1 + 1, o, none⟩) (by first | omega | (simp; done) | (simp; omega))
    have hf_wa0_wp2 := fun o => hb_wa0.frozen (p := ⟨w.heap.size + 1 + 1, o, none⟩) (by first | omega | (simp; done) | (simp; omega))
    have r0_wa0 := (hc_wa0_w 0).trans (show _ = some (.complex .f64 0 0) by simp [go_sem])
    have r1_wa0 := (hc_wa0_w 1).trans (show _ = some (.int .i64 0) by simp [go_sem])
    clear hc_wa0_w
    go_wp2_with fail
    refine (itoa_same x v0 _ (hS.below (by repeat' (first | (with_reducible exact Below.refl _ _) | (with_reducible assumption) | (with_reducible refine bl_alloc ?_ _) | (with_reducible refine bl_drew ?_) | (with_reducible refine bl_drewN ?_) | (with_reducible refine bl_setCell ?_ ?_ _) | (with_reducible refine bl_call ?_ (by with_reducible assumption)) | omega | (simp; done) | (simp; omega)))) A0.out I0.out).mono ?_
    rintro e wi0 ⟨rfl, hb_wi0⟩
    have hs_wi0 := hb_wi0.size
    (try simp at hs_wi0)
    have hz_wi0_w : w.heap.size < wi0.heap.size := (by have hs := hb_wi0.size; (try simp at hs); omega)
    have hy_wi0_w : w.heap.size < wi0.heap.size + 1 := (by omega)
    have hx_wi0_w : w.heap.size < wi0.heap.size + 1 + 1 := (by omega)
    have hc_wi0_w := fun o => hb_wi0.cell (p := ⟨w.heap.size, o, none⟩) (by first | omega | (simp; done) | (simp; omega))
    have hf_wi0_w := fun o => hb_wi0.frozen (p := ⟨w.heap.size, o, none⟩) (by first | omega | (simp; done) | (simp; omega))
    have hz_wi0_wp1 : w.heap.size + 1 < wi0.heap.size := (by have hs := hb_wi0.size; (try simp at hs); omega)
    have hy_wi0_wp1 : w.heap.size + 1 < wi0.heap.size + 1 := (by omega)
    have hx_wi0_wp1 : w.heap.size + 1 < wi0.heap.size + 1 + 1 := (by omega)
    have hc_wi0_wp1 := fun o => hb_wi0.cell (p := ⟨w.heap.size + 1, o, none⟩) (by first | omega | (simp; done) | (simp; omega))
    have hf_wi0_wp1 := fun o => hb_wi0.frozen (p := ⟨w.heap.size + 1, o, none⟩) (by first | omega | (simp; done) | (simp; omega))
    have hz_wi0_wp2 : w.heap.size + 1 + 1 < wi0.heap.size := (by have hs := hb_wi0.size; (try simp at hs); omega)
    have hy_wi0_wp2 : w.heap.size + 1 + 1 < wi0.heap.size + 1 := (by omega)
    have hx_wi0_wp2 : w.heap.size + 1 + 1 < wi0.heap.size + 1 + 1 := (by omega)
    have hc_wi0_wp2 := fun o => hb_wi0.cell (p := ⟨w.heap.size + 1 + 1, o, none⟩) (by first | omega | (simp; done) | (simp; omega))
    have hf_wi0_wp2 := fun o => hb_wi0.frozen (p := ⟨w.heap.size + 1 + 1, o, none⟩) (by first | omega | (simp; done) | (simp; omega))
    have r0_wi0 := (hc_wi0_w 0).trans (show _ = some (.complex .f64 0 0) by simp [go_sem, r0_wa0])
    have r1_wi0 := (hc_wi0_w 1).trans (show _ = some (.int .i64 0) by simp [go_sem, r1_wa0])
    clear hc_wi0_w
    go_wp2_with fail
    refine (HT0.out _).mono ?_
    rintro e w' ⟨rfl, rfl⟩
    go_wp2_with fail
    rw [rounds_succ]
    rcases word_cases y 9 (by omega) with ⟨v1, n1, a1, i1, t1⟩ | ⟨n1, a1 | ⟨v1, a1, i1⟩ | ⟨v1, a1, i1, t1⟩⟩
    · have N1 := Lib.hid n1
      have A1 := Lib.hid a1
      have I1 := Lib.hid i1
      obtain ⟨z1, hz1, T1⟩ := trim_any y
      have bz1 : (z1.size : Int) ≤ 9 := by omega
      have bv1 := atoi_bounds a1
      obtain ⟨bl1, bh1⟩ := bv1
      have F1 := num_flo n1
      have HF1 := Lib.hid F1
      have HT1 := Lib.hid T1
      clear n1 a1 i1 t1 hz1 F1 T1
      go_wp2_with fail
      refine (atoi_ok y v1 _ (by omega) A1.out).mono ?_
      rintro e wa1 ⟨rfl, hb_wa1⟩
      have hs_wa1 := hb_wa1.size
      (try simp at hs_wa1)
      have hz_wa1_w : w.heap.size < wa1.heap.size := (by have hs := hb_wa1.size; (try simp at hs); omega)
      have hy_wa1_w : w.heap.size < wa1.heap.size + 1 := (by omega)
      have hx_wa1_w : w.heap.size < wa1.heap.size + 1 + 1 := (by omega)
      have hc_wa1_w := fun o => hb_wa1.cell (p := ⟨w.heap.size, o, none⟩) (by first | omega | (simp; done) | (simp; omega))
      have hf_wa1_w := fun o => hb_wa1.frozen (p := ⟨w.heap.size, o, none⟩) (by first | omega | (simp; done) | (simp; omega))
      have hz_wa1_wp1 : w.heap.size + 1 < wa1.heap.size := (by have hs := hb_wa1.size; (try simp at hs); omega)
      have hy_wa1_wp1 : w.heap.size + 1 < wa1.heap.size + 1 := (by omega)
      have hx_wa1_wp1 : w.heap.size + 1 < wa1.heap.size + 1 + 1 := (by omega)
      have hc_wa1_wp1 := fun o => hb_wa1.cell (p := ⟨w.heap.size + 1, o, none⟩) (by first | omega | (simp; done) | (simp; omega))
      have hf_wa1_wp1 := fun o => hb_wa1.frozen (p := ⟨w.heap.size + 1, o, none⟩) (by first | omega | (simp; done) | (simp; omega))
      have hz_wa1_wp2 : w.heap.size + 1 + 1 < wa1.heap.size := (by have hs := hb_wa1.size; (try simp at hs); omega)
      have hy_wa1_wp2 : w.heap.size + 1 + 1 < wa1.heap.size + 1 := (by omega)
      have hx_wa1_wp2 : w.heap.size + 1 + 1 < wa1.heap.size + 1 + 1 := (by omega)
      have hc_wa1_wp2 := fun o => hb_wa1.cell (p := ⟨w.heap.size + 1 + 1, o, none⟩) (by first | omega | (simp; done) | (simp; omega))
      have hf_wa1_wp2 := fun o => hb_wa1.frozen (p := ⟨w.heap.size + 1 + 1, o, none⟩) (by first | omega | (simp; done) | (simp; omega))
      have r0_wa1 := (hc_wa1_w 0).trans (show _ = some (.complex .f64 0 0) by simp [go_sem, r0_wi0])
      have r1_wa1 := (hc_wa1_w 1).trans (show _ = some (.int .i64 0) by simp [go_sem, r1_wi0])
      clear hc_wa1_w
      go_wp2_with fail
      refine (itoa_same y v1 _ (hS.below (by repeat' (first | (with_reducible exact Below.refl _ _) | (with_reducible assumption) | (with_reducible refine bl_alloc ?_ _) | (with_reducible refine bl_drew ?_) | (with_reducible refine bl_drewN ?_) | (with_reducible refine bl_setCell ?_ ?_ _) | (with_reducible refine bl_call ?_ (by with_reducible assumption)) | omega | (simp; done) | (simp; omega)))) A1.out I1.out).mono ?_
      rintro e wi1 ⟨rfl, hb_wi1⟩
      have hs_wi1 := hb_wi1.size
      (try simp at hs_wi1)
      have hz_wi1_w : w.heap.size < wi1.heap.size := (by have hs := hb_wi1.size; (try simp at hs); omega)
      have hy_wi1_w : w.heap.size < wi1.heap.size + 1 := (by omega)
      have hx_wi1_w : w.heap.size < wi1.heap.size + 1 + 1 := (by omega)
      have hc_wi1_w := fun o => hb_wi1.cell (p := ⟨w.heap.size, o, none⟩) (by first | omega | (simp; done) | (simp; omega))
      have hf_wi1_w := fun o => hb_wi1.frozen (p := ⟨w.heap.size, o, none⟩) (by first | omega | (simp; done) | (simp; omega))
      have hz_wi1_wp1 : w.heap.size + 1 < wi1.heap.size := (by have hs := hb_wi1.size; (try simp at hs); omega)
      have hy_wi1_wp1 : w.heap.size + 1 < wi1.heap.size + 1 := (by omega)
      have hx_wi1_wp1 : w.heap.size + 1 < wi1.heap.size + 1 + 1 := (by omega)
      have hc_wi1_wp1 := fun o => hb_wi1.cell (p := ⟨w.heap.size + 1, o, none⟩) (by first | omega | (simp; done) | (simp; omega))
      have hf_wi1_wp1 := fun o => hb_wi1.frozen (p := ⟨w.heap.size + 1, o, none⟩) (by first | omega | (simp; done) | (simp; omega))
      have hz_wi1_wp2 : w.heap.size + 1 + 1 < wi1.heap.size := (by have hs := hb_wi1.size; (try simp at hs); omega)
      have hy_wi1_wp2 : w.heap.size + 1 + 1 < wi1.heap.size + 1 := (by omega)
      have hx_wi1_wp2 : w.heap.size + 1 + 1 < wi1.heap.size + 1 + 1 := (by omega)
      have hc_wi1_wp2 := fun o => hb_wi1.cell (p := ⟨w.heap.size + 1 + 1, o, none⟩) (by first | omega | (simp; done) | (simp; omega))
      have hf_wi1_wp2 := fun o => hb_wi1.frozen (p := ⟨w.heap.size + 1 + 1, o, none⟩) (by first | omega | (simp; done) | (simp; omega))
      have r0_wi1 := (hc_wi1_w 0).trans (show _ = some (.complex .f64 0 0) by simp [go_sem, r0_wa1])
      have r1_wi1 := (hc_wi1_w 1).trans (show _ = some (.int .i64 0) by simp [go_sem, r1_wa1])
      clear hc_wi1_w
      go_wp2_with fail
      refine (HT1.out _).mono ?_
      rintro e w' ⟨rfl, rfl⟩
      go_wp2_with fail
      rw [rounds_succ]
      rcases word_cases z 9 (by omega) with ⟨v2, n2, a2, i2, t2⟩ | ⟨n2, a2 | ⟨v2, a2, i2⟩ | ⟨v2, a2, i2, t2⟩⟩
      · have N2 := Lib.hid n2
        have A2 := Lib.hid a2
        have I2 := Lib.hid i2
        obtain ⟨z2, hz2, T2⟩ := trim_any z
        have bz2 : (z2.size : Int) ≤ 9 := by omega
        have bv2 := atoi_bounds a2
        obtain ⟨bl2, bh2⟩ := bv2
        have F2 := num_flo n2
        have HF2 := Lib.hid F2
        have HT2 := Lib.hid T2
        clear n2 a2 i2 t2 hz2 F2 T2
        go_wp2_with fail
        refine (atoi_ok z v2 _ (by omega) A2.out).mono ?_
        rintro e wa2 ⟨rfl, hb_wa2⟩
        have hs_wa2 := hb_wa2.size
        (try simp at hs_wa2)
        have hz_wa2_w : w.heap.size < wa2.heap.size := (by have hs := hb_wa2.size; (try simp at hs); omega)
        have hy_wa2_w : w.heap.size < wa2.heap.size + 1 := (by omega)
        have hx_wa2_w : w.heap.size < wa2.heap.size + 1 + 1 := (by omega)
        have hc_wa2_w := fun o => hb_wa2.cell (p := ⟨w.heap.size, o, none⟩) (by first | omega | (simp; done) | (simp; omega))
        have hf_wa2_w := fun o => hb_wa2.frozen (p := ⟨w.heap.size, o, none⟩) (by first | omega | (simp; done) | (simp; omega))
        have hz_wa2_wp1 : w.heap.size + 1 < wa2.heap.size := (by have hs := hb_wa2.size; (try simp at hs); omega)
        have hy_wa2_wp1 : w.heap.size + 1 < wa2.heap.size + 1 := (by omega)
        have hx_wa2_wp1 : w.heap.size + 1 < wa2.heap.size + 1 + 1 := (by omega)
        have hc_wa2_wp1 := fun o => hb_wa2.cell (p := ⟨w.heap.size + 1, o, none⟩) (by first | omega | (simp; done) | (simp; omega))
        have hf_wa2_wp1 := fun o => hb_wa2.frozen (p := ⟨w.heap.size + 1, o, none⟩) (by first | omega | (simp; done) | (simp; omega))
        have hz_wa2_wp2 : w.heap.size + 1 + 1 < wa2.heap.size := (by have hs := hb_wa2.size; (try simp at hs); omega)
        have hy_wa2_wp2 : w.heap.size + 1 + 1 < wa2.heap.size + 1 := (by omega)
        have hx_wa2_wp2 : w.heap.size + 1 + 1 < wa2.heap.size + 1 + 1 := (by omega)
        have hc_wa2_wp2 := fun o => hb_wa2.cell (p := ⟨w.heap.size + 1 + 1, o, none⟩) (by first | omega | (simp; done) | (simp; omega))
        have hf_wa2_wp2 := fun o => hb_wa2.frozen (p := ⟨w.heap.size + 1 + 1, o, none⟩) (by first | omega | (simp; done) | (simp; omega))
        have r0_wa2 := (hc_wa2_w 0).trans (show _ = some (.complex .f64 0 0) by simp [go_sem, r0_wi1])
        have r1_wa2 := (hc_wa2_w 1).trans (show _ = some (.int .i64 0) by simp [go_sem, r1_wi1])
        clear hc_wa2_w
        go_wp2_with fail
        refine (itoa_same z v2 _ (hS.below (by repeat' (first | (with_reducible exact Below.refl _ _) | (with_reducible assumption) | (with_reducible refine bl_alloc ?_ _) | (with_reducible refine bl_drew ?_) | (with_reducible refine bl_drewN ?_) | (with_reducible refine bl_setCell ?_ ?_ _) | (with_reducible refine bl_call ?_ (by with_reducible assumption)) | omega | (simp; done) | (simp; omega)))) A2.out I2.out).mono ?_
        rintro e wi2 ⟨rfl, hb_wi2⟩
        have hs_wi2 := hb_wi2.size
        (try simp at hs_wi2)
        have hz_wi2_w : w.heap.size < wi2.heap.size := (by have hs := hb_wi2.size; (try simp at hs); omega)
        have hy_wi2_w : w.heap.size < wi2.heap.size + 1 := (by omega)
        have hx_wi2_w : w.heap.size < wi2.heap.size + 1 + 1 := (by omega)
        have hc_wi2_w := fun o => hb_wi2.cell (p := ⟨w.heap.size, o, none⟩) (by first | omega | (simp; done) | (simp; omega))
        have hf_wi2_w := fun o => hb_wi2.frozen (p := ⟨w.heap.size, o, none⟩) (by first | omega | (simp; done) | (simp; omega))
        have hz_wi2_wp1 : w.heap.size + 1 < wi2.heap.size := (by have hs := hb_wi2.size; (try simp at hs); omega)
        have hy_wi2_wp1 : w.heap.size + 1 < wi2.heap.size + 1 := (by omega)
        have hx_wi2_wp1 : w.heap.size + 1 < wi2.heap.size + 1 + 1 := (by omega)
        have hc_wi2_wp1 := fun o => hb_wi2.cell (p := ⟨w.heap.size + 1, o, none⟩) (by first | omega | (simp; done) | (simp; omega))
        have hf_wi2_wp1 := fun o => hb_wi2.frozen (p := ⟨w.heap.size + 1, o, none⟩) (by first | omega | (simp; done) | (simp; omega))
        have hz_wi2_wp2 : w.heap.size + 1 + 1 < wi2.heap.size := (by have hs := hb_wi2.size; (try simp at hs); omega)
        have hy_wi2_wp2 : w.heap.size + 1 + 1 < wi2.heap.size + 1 := (by omega)
        have hx_wi2_wp2 : w.heap.size + 1 + 1 < wi2.heap.size + 1 + 1 := (by omega)
        have hc_wi2_wp2 := fun o => hb_wi2.cell (p := ⟨w.heap.size + 1 + 1, o, none⟩) (by first | omega | (simp; done) | (simp; omega))
        have hf_wi2_wp2 := fun o => hb_wi2.frozen (p := ⟨w.heap.size + 1 + 1, o, none⟩) (by first | omega | (simp; done) | (simp; omega))
        have r0_wi2 := (hc_wi2_w 0).trans (show _ = some (.complex .f64 0 0) by simp [go_sem, r0_wa2])
        have r1_wi2 := (hc_wi2_w 1).trans (show _ = some (.int .i64 0) by simp [go_sem, r1_wa2])
        clear hc_wi2_w
        go_wp2_with fail
        refine (HT2.out _).mono ?_
        rintro e w' ⟨rfl, rfl⟩
        go_wp2_with fail
        rw [rounds_succ]
        go_wp2_with fail
        refine calm_new 9 #[.complex .f64 0 0, .int .i64 0] 28 _ rfl (by kernel_rfl) (by kernel_rfl) (fun a w => by kernel_rfl) fun hG => ?_
        have hg_w := hG (w.heap.size) (by first | omega | (simp; done) | (simp; omega))
        have hg_wp1 := hG (w.heap.size + 1) (by first | omega | (simp; done) | (simp; omega))
        have hg_wp2 := hG (w.heap.size + 1 + 1) (by first | omega | (simp; done) | (simp; omega))
        clear hG
        simp only [List.take_succ_cons, List.take_zero, List.drop_succ_cons, List.drop_zero]
        repeat (refine wpCalm_step (fun K hK => ?_); go_simp; first | (refine hK _ ?_; clear hK K) | (apply Exists.intro; refine ⟨fun _ => ?_, hK _ ?_⟩; (first | (go_at_call 47; with_reducible exact cal_call (fun w => number_any _ _ w))); clear hK K))
        refine wpCalm_nil ?_
        intro B1 w5 hN
        obtain ⟨hb_w5, hlo_B1, hhi_B1, hc_B1, hf_B1⟩ := hN
        (try simp at hlo_B1)
        clear hg_w hg_wp1 hg_wp2
        have hs_w5 := hb_w5.size
        (try simp at hs_w5)
        have hz_w5_w : w.heap.size < w5.heap.size := (by have hs := hb_w5.size; (try simp at hs); omega)
        have hy_w5_w : w.heap.size < w5.heap.size + 1 := (by omega)
        have hx_w5_w : w.heap.size < w5.heap.size + 1 + 1 := (by omega)
        have hc_w5_w := fun o => hb_w5.cell (p := ⟨w.heap.size, o, none⟩) (by first | omega | (simp; done) | (simp; omega))
        have hf_w5_w := fun o => hb_w5.frozen (p := ⟨w.heap.size, o, none⟩) (by first | omega | (simp; done) | (simp; omega))
        have hz_w5_wp1 : w.heap.size + 1 < w5.heap.size := (by have hs := hb_w5.size; (try simp at hs); omega)
        have hy_w5_wp1 : w.heap.size + 1 < w5.heap.size + 1 := (by omega)
        have hx_w5_wp1 : w.heap.size + 1 < w5.heap.size + 1 + 1 := (by omega)
        have hc_w5_wp1 := fun o => hb_w5.cell (p := ⟨w.heap.size + 1, o, none⟩) (by first | omega | (simp; done) | (simp; omega))
        have hf_w5_wp1 := fun o => hb_w5.frozen (p := ⟨w.heap.size + 1, o, none⟩) (by first | omega | (simp; done) | (simp; omega))
        have hz_w5_wp2 : w.heap.size + 1 + 1 < w5.heap.size := (by have hs := hb_w5.size; (try simp at hs); omega)
        have hy_w5_wp2 : w.heap.size + 1 + 1 < w5.heap.size + 1 := (by omega)
        have hx_w5_wp2 : w.heap.size + 1 + 1 < w5.heap.size + 1 + 1 := (by omega)
        have hc_w5_wp2 := fun o => hb_w5.cell (p := ⟨w.heap.size + 1 + 1, o, none⟩) (by first | omega | (simp; done) | (simp; omega))
        have hf_w5_wp2 := fun o => hb_w5.frozen (p := ⟨w.heap.size + 1 + 1, o, none⟩) (by first | omega | (simp; done) | (simp; omega))
        have hn_B1_w : ¬ B1 = w.heap.size := by first | omega | (simp at hlo_B1; omega)
        have hm_B1_w : ¬ w.heap.size = B1 := by first | omega | (simp at hlo_B1; omega)
        have hn_B1_wp1 : ¬ B1 = w.heap.size + 1 := by first | omega | (simp at hlo_B1; omega)
        have hm_B1_wp1 : ¬ w.heap.size + 1 = B1 := by first | omega | (simp at hlo_B1; omega)
        have hn_B1_wp2 : ¬ B1 = w.heap.size + 1 + 1 := by first | omega | (simp at hlo_B1; omega)
        have hm_B1_wp2 : ¬ w.heap.size + 1 + 1 = B1 := by first | omega | (simp at hlo_B1; omega)
        by_cases hR : Right v0 v1 v2
        · have hp : parseM s.data.toList = .good v0 v1 v2 := by rw [HM.out, N0.out, N1.out, N2.out]; exact parse3_yes hR
          have hc : chk v0 v1 v2 = 0 := by unfold chk; exact if_pos hR
          have HC := Lib.hid (fun w => CheckBall_any v0 v1 v2 w HF0.out HF1.out)
          rw [hc] at HC
          have HP := Lib.hid hp
          clear hp hc hR
          go_wp2_with fail
          refine (HC.out _).mono ?_
          rintro e w6 ⟨rfl, hb_w6⟩
          have hs_w6 := hb_w6.size
          (try simp at hs_w6)
          have hz_w6_w : w.heap.size < w6.heap.size := (by have hs := hb_w6.size; (try simp at hs); omega)
          have hy_w6_w : w.heap.size < w6.heap.size + 1 := (by omega)
          have hx_w6_w : w.heap.size < w6.heap.size + 1 + 1 := (by omega)
          have hc_w6_w := fun o => hb_w6.cell (p := ⟨w.heap.size, o, none⟩) (by first | omega | (simp; done) | (simp; omega))
          have hf_w6_w := fun o => hb_w6.frozen (p := ⟨w.heap.size, o, none⟩) (by first | omega | (simp; done) | (simp; omega))
          have hz_w6_xB1 : B1 < w6.heap.size := (by have hs := hb_w6.size; (try simp at hs); omega)
          have hy_w6_xB1 : B1 < w6.heap.size + 1 := (by omega)
          have hx_w6_xB1 : B1 < w6.heap.size + 1 + 1 := (by omega)
          have hc_w6_xB1 := fun o => hb_w6.cell (p := ⟨B1, o, none⟩) (by first | omega | (simp; done) | (simp; omega))
          have hf_w6_xB1 := fun o => hb_w6.frozen (p := ⟨B1, o, none⟩) (by first | omega | (simp; done) | (simp; omega))
          have r0_w6 := (hc_w6_w 0).trans (show _ = some (.complex .f64 0 0) by simp [go_sem, hc_w5_w, r0_wi2])
          have r1_w6 := (hc_w6_w 1).trans (show _ = some (.int .i64 0) by simp [go_sem, hc_w5_w, r1_wi2])
          clear hc_w6_w hc_w5_w
          go_wp2
          refine bodyPost_ret (v := out (parseM s.data.toList)) (by rw [HP.out]; simp [out, results, Tryz.results18, go_sem, *]; first | done | rfl) rfl ?_
          exact ⟨rfl, (by repeat' (first | (with_reducible exact Below.refl _ _) | (with_reducible assumption) | (with_reducible refine bl_alloc ?_ _) | (with_reducible refine bl_drew ?_) | (with_reducible refine bl_drewN ?_) | (with_reducible refine bl_setCell ?_ ?_ _) | (with_reducible refine bl_call ?_ (by with_reducible assumption)) | omega | (simp; done) | (simp; omega)))⟩
        · have hp : parseM s.data.toList = .bad 2 := by rw [HM.out, N0.out, N1.out, N2.out]; exact parse3_no hR
          have hc : chk v0 v1 v2 = 2 := by unfold chk; exact if_neg hR
          have HC := Lib.hid (fun w => CheckBall_any v0 v1 v2 w HF0.out HF1.out)
          rw [hc] at HC
          have HP := Lib.hid hp
          clear hp hc hR
          go_wp2_with fail
          refine (HC.out _).mono ?_
          rintro e w6 ⟨rfl, hb_w6⟩
          have hs_w6 := hb_w6.size
          (try simp at hs_w6)
          have hz_w6_w : w.heap.size < w6.heap.size := (by have hs := hb_w6.size; (try simp at hs); omega)
          have hy_w6_w : w.heap.size < w6.heap.size + 1 := (by omega)
          have hx_w6_w : w.heap.size < w6.heap.size + 1 + 1 := (by omega)
          have hc_w6_w := fun o => hb_w6.cell (p := ⟨w.heap.size, o, none⟩) (by first | omega | (simp; done) | (simp; omega))
          have hf_w6_w := fun o => hb_w6.frozen (p := ⟨w.heap.size, o, none⟩) (by first | omega | (simp; done) | (simp; omega))
          have hz_w6_xB1 : B1 < w6.heap.size := (by have hs := hb_w6.size; (try simp at hs); omega)
          have hy_w6_xB1 : B1 < w6.heap.size + 1 := (by omega)
          have hx_w6_xB1 : B1 < w6.heap.size + 1 + 1 := (by omega)
          have hc_w6_xB1 := fun o => hb_w6.cell (p := ⟨B1, o, none⟩) (by first | omega | (simp; done) | (simp; omega))
          have hf_w6_xB1 := fun o => hb_w6.frozen (p := ⟨B1, o, none⟩) (by first | omega | (simp; done) | (simp; omega))
          have r0_w6 := (hc_w6_w 0).trans (show _ = some (.complex .f64 0 0) by simp [go_sem, hc_w5_w, r0_wi2])
          have r1_w6 := (hc_w6_w 1).trans (show _ = some (.int .i64 0) by simp [go_sem, hc_w5_w, r1_wi2])
          clear hc_w6_w hc_w5_w
          go_wp2
          refine bodyPost_ret (v := out (parseM s.data.toList)) (by rw [HP.out]; simp [out, results, Tryz.results18, go_sem, *]; first | done | rfl) rfl ?_
          exact ⟨rfl, (by repeat' (first | (with_reducible exact Below.refl _ _) | (with_reducible assumption) | (with_reducible refine bl_alloc ?_ _) | (with_reducible refine bl_drew ?_) | (with_reducible refine bl_drewN ?_) | (with_reducible refine bl_setCell ?_ ?_ _) | (with_reducible refine bl_call ?_ (by with_reducible assumption)) | omega | (simp; done) | (simp; omega)))⟩
      · have NN := Lib.hid n2
        have HP := Lib.hid (show parseM s.data.toList = .bad 4 from by rw [HM.out, N0.out, N1.out, NN.out]; exact parse3_n3 _ _)
        have A2 := Lib.hid a2
        clear n2 a2
        go_wp2_with fail
        refine (atoi_bad z _ (hS.below (by repeat' (first | (with_reducible exact Below.refl _ _) | (with_reducible assumption) | (with_reducible refine bl_alloc ?_ _) | (with_reducible refine bl_drew ?_) | (with_reducible refine bl_drewN ?_) | (with_reducible refine bl_setCell ?_ ?_ _) | (with_reducible refine bl_call ?_ (by with_reducible assumption)) | omega | (simp; done) | (simp; omega)))) (by omega) A2.out).mono ?_
        rintro e wa2 ⟨vE, tE, NE, rfl, hb_wa2⟩
        have hs_wa2 := hb_wa2.size
        (try simp at hs_wa2)
        have hz_wa2_w : w.heap.size < wa2.heap.size := (by have hs := hb_wa2.size; (try simp at hs); omega)
        have hy_wa2_w : w.heap.size < wa2.heap.size + 1 := (by omega)
        have hx_wa2_w : w.heap.size < wa2.heap.size + 1 + 1 := (by omega)
        have hc_wa2_w := fun o => hb_wa2.cell (p := ⟨w.heap.size, o, none⟩) (by first | omega | (simp; done) | (simp; omega))
        have hf_wa2_w := fun o => hb_wa2.frozen (p := ⟨w.heap.size, o, none⟩) (by first | omega | (simp; done) | (simp; omega))
        have hz_wa2_wp1 : w.heap.size + 1 < wa2.heap.size := (by have hs := hb_wa2.size; (try simp at hs); omega)
        have hy_wa2_wp1 : w.heap.size + 1 < wa2.heap.size + 1 := (by omega)
        have hx_wa2_wp1 : w.heap.size + 1 < wa2.heap.size + 1 + 1 := (by omega)
        have hc_wa2_wp1 := fun o => hb_wa2.cell (p := ⟨w.heap.size + 1, o, none⟩) (by first | omega | (simp; done) | (simp; omega))
        have hf_wa2_wp1 := fun o => hb_wa2.frozen (p := ⟨w.heap.size + 1, o, none⟩) (by first | omega | (simp; done) | (simp; omega))
        have hz_wa2_wp2 : w.heap.size + 1 + 1 < wa2.heap.size := (by have hs := hb_wa2.size; (try simp at hs); omega)
        have hy_wa2_wp2 : w.heap.size + 1 + 1 < wa2.heap.size + 1 := (by omega)
        have hx_wa2_wp2 : w.heap.size + 1 + 1 < wa2.heap.size + 1 + 1 := (by omega)
        have hc_wa2_wp2 := fun o => hb_wa2.cell (p := ⟨w.heap.size + 1 + 1, o, none⟩) (by first | omega | (simp; done) | (simp; omega))
        have hf_wa2_wp2 := fun o => hb_wa2.frozen (p := ⟨w.heap.size + 1 + 1, o, none⟩) (by first | omega | (simp; done) | (simp; omega))
        have r0_wa2 := (hc_wa2_w 0).trans (show _ = some (.complex .f64 0 0) by simp [go_sem, r0_wi1])
        have r1_wa2 := (hc_wa2_w 1).trans (show _ = some (.int .i64 0) by simp [go_sem, r1_wi1])
        clear hc_wa2_w
        go_wp2
        refine bodyPost_ret (v := out (parseM s.data.toList)) (by rw [HP.out]; simp [out, results, Tryz.results18, go_sem, *]; first | done | rfl) rfl ?_
        exact ⟨rfl, (by repeat' (first | (with_reducible exact Below.refl _ _) | (with_reducible assumption) | (with_reducible refine bl_alloc ?_ _) | (with_reducible refine bl_drew ?_) | (with_reducible refine bl_drewN ?_) | (with_reducible refine bl_setCell ?_ ?_ _) | (with_reducible refine bl_call ?_ (by with_reducible assumption)) | omega | (simp; done) | (simp; omega)))⟩
      · have NN := Lib.hid n2
        have HP := Lib.hid (show parseM s.data.toList = .bad 4 from by rw [HM.out, N0.out, N1.out, NN.out]; exact parse3_n3 _ _)
        have A2 := Lib.hid a2
        have bv := atoi_bounds a2
        obtain ⟨bvl, bvh⟩ := bv
        obtain ⟨q, hq, O⟩ := itoa_other z v2 a2 i2
        have HO := Lib.hid O
        clear n2 a2 i2 O
        go_wp2_with fail
        refine (atoi_ok z v2 _ (by omega) A2.out).mono ?_
        rintro e wa2 ⟨rfl, hb_wa2⟩
        have hs_wa2 := hb_wa2.size
        (try simp at hs_wa2)
        have hz_wa2_w : w.heap.size < wa2.heap.size := (by have hs := hb_wa2.size; (try simp at hs); omega)
        have hy_wa2_w : w.heap.size < wa2.heap.size + 1 := (by omega)
        have hx_wa2_w : w.heap.size < wa2.heap.size + 1 + 1 := (by omega)
        have hc_wa2_w := fun o => hb_wa2.cell (p := ⟨w.heap.size, o, none⟩) (by first | omega | (simp; done) | (simp; omega))
        have hf_wa2_w := fun o => hb_wa2.frozen (p := ⟨w.heap.size, o, none⟩) (by first | omega | (simp; done) | (simp; omega))
        have hz_wa2_wp1 : w.heap.size + 1 < wa2.heap.size := (by have hs := hb_wa2.size; (try simp at hs); omega)
        have hy_wa2_wp1 : w.heap.size + 1 < wa2.heap.size + 1 := (by omega)
        have hx_wa2_wp1 : w.heap.size + 1 < wa2.heap.size + 1 + 1 := (by omega)
        have hc_wa2_wp1 := fun o => hb_wa2.cell (p := ⟨w.heap.size + 1, o, none⟩) (by first | omega | (simp; done) | (simp; omega))
        have hf_wa2_wp1 := fun o => hb_wa2.frozen (p := ⟨w.heap.size + 1, o, none⟩) (by first | omega | (simp; done) | (simp; omega))
        have hz_wa2_wp2 : w.heap.size + 1 + 1 < wa2.heap.size := (by have hs := hb_wa2.size; (try simp at hs); omega)
        have hy_wa2_wp2 : w.heap.size + 1 + 1 < wa2.heap.size + 1 := (by omega)
        have hx_wa2_wp2 : w.heap.size + 1 + 1 < wa2.heap.size + 1 + 1 := (by omega)
        have hc_wa2_wp2 := fun o => hb_wa2.cell (p := ⟨w.heap.size + 1 + 1, o, none⟩) (by first | omega | (simp; done) | (simp; omega))
        have hf_wa2_wp2 := fun o => hb_wa2.frozen (p := ⟨w.heap.size + 1 + 1, o, none⟩) (by first | omega | (simp; done) | (simp; omega))
        have r0_wa2 := (hc_wa2_w 0).trans (show _ = some (.complex .f64 0 0) by simp [go_sem, r0_wi1])
        have r1_wa2 := (hc_wa2_w 1).trans (show _ = some (.int .i64 0) by simp [go_sem, r1_wi1])
        clear hc_wa2_w
        go_wp2_with fail
        refine (HO.out _ (hS.below (by repeat' (first | (with_reducible exact Below.refl _ _) | (with_reducible assumption) | (with_reducible refine bl_alloc ?_ _) | (with_reducible refine bl_drew ?_) | (with_reducible refine bl_drewN ?_) | (with_reducible refine bl_setCell ?_ ?_ _) | (with_reducible refine bl_call ?_ (by with_reducible assumption)) | omega | (simp; done) | (simp; omega))))).mono ?_
        rintro e wi2 ⟨rfl, hb_wi2⟩
        have hs_wi2 := hb_wi2.size
        (try simp at hs_wi2)
        have hz_wi2_w : w.heap.size < wi2.heap.size := (by have hs := hb_wi2.size; (try simp at hs); omega)
        have hy_wi2_w : w.heap.size < wi2.heap.size + 1 := (by omega)
        have hx_wi2_w : w.heap.size < wi2.heap.size + 1 + 1 := (by omega)
        have hc_wi2_w := fun o => hb_wi2.cell (p := ⟨w.heap.size, o, none⟩) (by first | omega | (simp; done) | (simp; omega))
        have hf_wi2_w := fun o => hb_wi2.frozen (p := ⟨w.heap.size, o, none⟩) (by first | omega | (simp; done) | (simp; omega))
        have hz_wi2_wp1 : w.heap.size + 1 < wi2.heap.size := (by have hs := hb_wi2.size; (try simp at hs); omega)
        have hy_wi2_wp1 : w.heap.size + 1 < wi2.heap.size + 1 := (by omega)
        have hx_wi2_wp1 : w.heap.size + 1 < wi2.heap.size + 1 + 1 := (by omega)
        have hc_wi2_wp1 := fun o => hb_wi2.cell (p := ⟨w.heap.size + 1, o, none⟩) (by first | omega | (simp; done) | (simp; omega))
        have hf_wi2_wp1 := fun o => hb_wi2.frozen (p := ⟨w.heap.size + 1, o, none⟩) (by first | omega | (simp; done) | (simp; omega))
        have hz_wi2_wp2 : w.heap.size + 1 + 1 < wi2.heap.size := (by have hs := hb_wi2.size; (try simp at hs); omega)
        have hy_wi2_wp2 : w.heap.size + 1 + 1 < wi2.heap.size + 1 := (by omega)
        have hx_wi2_wp2 : w.heap.size + 1 + 1 < wi2.heap.size + 1 + 1 := (by omega)
        have hc_wi2_wp2 := fun o => hb_wi2.cell (p := ⟨w.heap.size + 1 + 1, o, none⟩) (by first | omega | (simp; done) | (simp; omega))
        have hf_wi2_wp2 := fun o => hb_wi2.frozen (p := ⟨w.heap.size + 1 + 1, o, none⟩) (by first | omega | (simp; done) | (simp; omega))
        have r0_wi2 := (hc_wi2_w 0).trans (show _ = some (.complex .f64 0 0) by simp [go_sem, r0_wa2])
        have r1_wi2 := (hc_wi2_w 1).trans (show _ = some (.int .i64 0) by simp [go_sem, r1_wa2])
        clear hc_wi2_w
        go_wp2
        refine bodyPost_ret (v := out (parseM s.data.toList)) (by rw [HP.out]; simp [out, results, Tryz.results18, go_sem, *]; first | done | rfl) rfl ?_
        exact ⟨rfl, (by repeat' (first | (with_reducible exact Below.refl _ _) | (with_reducible assumption) | (with_reducible refine bl_alloc ?_ _) | (with_reducible refine bl_drew ?_) | (with_reducible refine bl_drewN ?_) | (with_reducible refine bl_setCell ?_ ?_ _) | (with_reducible refine bl_call ?_ (by with_reducible assumption)) | omega | (simp; done) | (simp; omega)))⟩
      · have NN := Lib.hid n2
        have HP := Lib.hid (show parseM s.data.toList = .bad 4 from by rw [HM.out, N0.out, N1.out, NN.out]; exact parse3_n3 _ _)
        have A2 := Lib.hid a2
        have I2 := Lib.hid i2
        have bv := atoi_bounds a2
        obtain ⟨bvl, bvh⟩ := bv
        obtain ⟨q, hq, T⟩ := trim_any z
        have bq : 9 < (q.size : Int) := by omega
        have HT := Lib.hid T
        clear n2 a2 i2 t2 T hq
        go_wp2_with fail
        refine (atoi_ok z v2 _ (by omega) A2.out).mono ?_
        rintro e wa2 ⟨rfl, hb_wa2⟩
        have hs_wa2 := hb_wa2.size
        (try simp at hs_wa2)
        have hz_wa2_w : w.heap.size < wa2.heap.size := (by have hs := hb_wa2.size; (try simp at hs); omega)
        have hy_wa2_w : w.heap.size < wa2.heap.size + 1 := (by omega)
        have hx_wa2_w : w.heap.size < wa2.heap.size + 1 + 1 := (by omega)
        have hc_wa2_w := fun o => hb_wa2.cell (p := ⟨w.heap.size, o, none⟩) (by first | omega | (simp; done) | (simp; omega))
        have hf_wa2_w := fun o => hb_wa2.frozen (p := ⟨w.heap.size, o, none⟩) (by first | omega | (simp; done) | (simp; omega))
        have hz_wa2_wp1 : w.heap.size + 1 < wa2.heap.size := (by have hs := hb_wa2.size; (try simp at hs); omega)
        have hy_wa2_wp1 : w.heap.size + 1 < wa2.heap.size + 1 := (by omega)
        have hx_wa2_wp1 : w.heap.size + 1 < wa2.heap.size + 1 + 1 := (by omega)
        have hc_wa2_wp1 := fun o => hb_wa2.cell (p := ⟨w.heap.size + 1, o, none⟩) (by first | omega | (simp; done) | (simp; omega))
        have hf_wa2_wp1 := fun o => hb_wa2.frozen (p := ⟨w.heap.size + 1, o, none⟩) (by first | omega | (simp; done) | (simp; omega))
        have hz_wa2_wp2 : w.heap.size + 1 + 1 < wa2.heap.size := (by have hs := hb_wa2.size; (try simp at hs); omega)
        have hy_wa2_wp2 : w.heap.size + 1 + 1 < wa2.heap.size + 1 := (by omega)
        have hx_wa2_wp2 : w.heap.size + 1 + 1 < wa2.heap.size + 1 + 1 := (by omega)
        have hc_wa2_wp2 := fun o => hb_wa2.cell (p := ⟨w.heap.size + 1 + 1, o, none⟩) (by first | omega | (simp; done) | (simp; omega))
        have hf_wa2_wp2 := fun o => hb_wa2.frozen (p := ⟨w.heap.size + 1 + 1, o, none⟩) (by first | omega | (simp; done) | (simp; omega))
        have r0_wa2 := (hc_wa2_w 0).trans (show _ = some (.complex .f64 0 0) by simp [go_sem, r0_wi1])
        have r1_wa2 := (hc_wa2_w 1).trans (show _ = some (.int .i64 0) by simp [go_sem, r1_wi1])
        clear hc_wa2_w
        go_wp2_with fail
        refine (itoa_same z v2 _ (hS.below (by repeat' (first | (with_reducible exact Below.refl _ _) | (with_reducible assumption) | (with_reducible refine bl_alloc ?_ _) | (with_reducible refine bl_drew ?_) | (with_reducible refine bl_drewN ?_) | (with_reducible refine bl_setCell ?_ ?_ _) | (with_reducible refine bl_call ?_ (by with_reducible assumption)) | omega | (simp; done) | (simp; omega)))) A2.out I2.out).mono ?_
        rintro e wi2 ⟨rfl, hb_wi2⟩
        have hs_wi2 := hb_wi2.size
        (try simp at hs_wi2)
        have hz_wi2_w : w.heap.size < wi2.heap.size := (by have hs := hb_wi2.size; (try simp at hs); omega)
        have hy_wi2_w : w.heap.size < wi2.heap.size + 1 := (by omega)
        have hx_wi2_w : w.heap.size < wi2.heap.size + 1 + 1 := (by omega)
        have hc_wi2_w := fun o => hb_wi2.cell (p := ⟨w.heap.size, o, none⟩) (by first | omega | (simp; done) | (simp; omega))
        have hf_wi2_w := fun o => hb_wi2.frozen (p := ⟨w.heap.size, o, none⟩) (by first | omega | (simp; done) | (simp; omega))
        have hz_wi2_wp1 : w.heap.size + 1 < wi2.heap.size := (by have hs := hb_wi2.size; (try simp at hs); omega)
        have hy_wi2_wp1 : w.heap.size + 1 < wi2.heap.size + 1 := (by omega)
        have hx_wi2_wp1 : w.heap.size + 1 < wi2.heap.size + 1 + 1 := (by omega)
        have hc_wi2_wp1 := fun o => hb_wi2.cell (p := ⟨w.heap.size + 1, o, none⟩) (by first | omega | (simp; done) | (simp; omega))
        have hf_wi2_wp1 := fun o => hb_wi2.frozen (p := ⟨w.heap.size + 1, o, none⟩) (by first | omega | (simp; done) | (simp; omega))
        have hz_wi2_wp2 : w.heap.size + 1 + 1 < wi2.heap.size := (by have hs := hb_wi2.size; (try simp at hs); omega)
        have hy_wi2_wp2 : w.heap.size + 1 + 1 < wi2.heap.size + 1 := (by omega)
        have hx_wi2_wp2 : w.heap.size + 1 + 1 < wi2.heap.size + 1 + 1 := (by omega)
        have hc_wi2_wp2 := fun o => hb_wi2.cell (p := ⟨w.heap.size + 1 + 1, o, none⟩) (by first | omega | (simp; done) | (simp; omega))
        have hf_wi2_wp2 := fun o => hb_wi2.frozen (p := ⟨w.heap.size + 1 + 1, o, none⟩) (by first | omega | (simp; done) | (simp; omega))
        have r0_wi2 := (hc_wi2_w 0).trans (show _ = some (.complex .f64 0 0) by simp [go_sem, r0_wa2])
        have r1_wi2 := (hc_wi2_w 1).trans (show _ = some (.int .i64 0) by simp [go_sem, r1_wa2])
        clear hc_wi2_w
        go_wp2_with fail
        refine (HT.out _).mono ?_
        rintro e w' ⟨rfl, rfl⟩
        go_wp2
        refine bodyPost_ret (v := out (parseM s.data.toList)) (by rw [HP.out]; simp [out, results, Tryz.results18, go_sem, *]; first | done | rfl) rfl ?_
        exact ⟨rfl, (by repeat' (first | (with_reducible exact Below.refl _ _) | (with_reducible assumption) | (with_reducible refine bl_alloc ?_ _) | (with_reducible refine bl_drew ?_) | (with_reducible refine bl_drewN ?_) | (with_reducible refine bl_setCell ?_ ?_ _) | (with_reducible refine bl_call ?_ (by with_reducible assumption)) | omega | (simp; done) | (simp; omega)))⟩
    · have NN := Lib.hid n1
      have HP := Lib.hid (show parseM s.data.toList = .bad 4 from by rw [HM.out, N0.out, NN.out]; exact parse3_n2 _ _)
      have A1 := Lib.hid a1
      clear n1 a1
      go_wp2_with fail
      refine (atoi_bad y _ (hS.below (by repeat' (first | (with_reducible exact Below.refl _ _) | (with_reducible assumption) | (with_reducible refine bl_alloc ?_ _) | (with_reducible refine bl_drew ?_) | (with_reducible refine bl_drewN ?_) | (with_reducible refine bl_setCell ?_ ?_ _) | (with_reducible refine bl_call ?_ (by with_reducible assumption)) | omega | (simp; done) | (simp; omega)))) (by omega) A1.out).mono ?_
      rintro e wa1 ⟨vE, tE, NE, rfl, hb_wa1⟩
      have hs_wa1 := hb_wa1.size
      (try simp at hs_wa1)
      have hz_wa1_w : w.heap.size < wa1.heap.size := (by have hs := hb_wa1.size; (try simp at hs); omega)
      have hy_wa1_w : w.heap.size < wa1.heap.size + 1 := (by omega)
      have hx_wa1_w : w.heap.size < wa1.heap.size + 1 + 1 := (by omega)
      have hc_wa1_w := fun o => hb_wa1.cell (p := ⟨w.heap.size, o, none⟩) (by first | omega | (simp; done) | (simp; omega))
      have hf_wa1_w := fun o => hb_wa1.frozen (p := ⟨w.heap.size, o, none⟩) (by first | omega | (simp; done) | (simp; omega))
      have hz_wa1_wp1 : w.heap.size + 1 < wa1.heap.size := (by have hs := hb_wa1.size; (try simp at hs); omega)
      have hy_wa1_wp1 : w.heap.size + 1 < wa1.heap.size + 1 := (by omega)
      have hx_wa1_wp1 : w.heap.size + 1 < wa1.heap.size + 1 + 1 := (by omega)
      have hc_wa1_wp1 := fun o => hb_wa1.cell (p := ⟨w.heap.size + 1, o, none⟩) (by first | omega | (simp; done) | (simp; omega))
      have hf_wa1_wp1 := fun o => hb_wa1.frozen (p := ⟨w.heap.size + 1, o, none⟩) (by first | omega | (simp; done) | (simp; omega))
      have hz_wa1_wp2 : w.heap.size + 1 + 1 < wa1.heap.size := (by have hs := hb_wa1.size; (try simp at hs); omega)
      have hy_wa1_wp2 : w.heap.size + 1 + 1 < wa1.heap.size + 1 := (by omega)
      have hx_wa1_wp2 : w.heap.size + 1 + 1 < wa1.heap.size + 1 + 1 := (by omega)
      have hc_wa1_wp2 := fun o => hb_wa1.cell (p := ⟨w.heap.size + 1 + 1, o, none⟩) (by first | omega | (simp; done) | (simp; omega))
      have hf_wa1_wp2 := fun o => hb_wa1.frozen (p := ⟨w.heap.size + 1 + 1, o, none⟩) (by first | omega | (simp; done) | (simp; omega))
      have r0_wa1 := (hc_wa1_w 0).trans (show _ = some (.complex .f64 0 0) by simp [go_sem, r0_wi0])
      have r1_wa1 := (hc_wa1_w 1).trans (show _ = some (.int .i64 0) by simp [go_sem, r1_wi0])
      clear hc_wa1_w
      go_wp2
      refine bodyPost_ret (v := out (parseM s.data.toList)) (by rw [HP.out]; simp [out, results, Tryz.results18, go_sem, *]; first | done | rfl) rfl ?_
      exact ⟨rfl, (by repeat' (first | (with_reducible exact Below.refl _ _) | (with_reducible assumption) | (with_reducible refine bl_alloc ?_ _) | (with_reducible refine bl_drew ?_) | (with_reducible refine bl_drewN ?_) | (with_reducible refine bl_setCell ?_ ?_ _) | (with_reducible refine bl_call ?_ (by with_reducible assumption)) | omega | (simp; done) | (simp; omega)))⟩
    · have NN := Lib.hid n1
      have HP := Lib.hid (show parseM s.data.toList = .bad 4 from by rw [HM.out, N0.out, NN.out]; exact parse3_n2 _ _)
      have A1 := Lib.hid a1
      have bv := atoi_bounds a1
      obtain ⟨bvl, bvh⟩ := bv
      obtain ⟨q, hq, O⟩ := itoa_other y v1 a1 i1
      have HO := Lib.hid O
      clear n1 a1 i1 O
      go_wp2_with fail
      refine (atoi_ok y v1 _ (by omega) A1.out).mono ?_
      rintro e wa1 ⟨rfl, hb_wa1⟩
      have hs_wa1 := hb_wa1.size
      (try simp at hs_wa1)
      have hz_wa1_w : w.heap.size < wa1.heap.size := (by have hs := hb_wa1.size; (try simp at hs); omega)
      have hy_wa1_w : w.heap.size < wa1.heap.size + 1 := (by omega)
      have hx_wa1_w : w.heap.size < wa1.heap.size + 1 + 1 := (by omega)
      have hc_wa1_w := fun o => hb_wa1.cell (p := ⟨w.heap.size, o, none⟩) (by first | omega | (simp; done) | (simp; omega))
      have hf_wa1_w := fun o => hb_wa1.frozen (p := ⟨w.heap.size, o, none⟩) (by first | omega | (simp; done) | (simp; omega))
      have hz_wa1_wp1 : w.heap.size + 1 < wa1.heap.size := (by have hs := hb_wa1.size; (try simp at hs); omega)
      have hy_wa1_wp1 : w.heap.size + 1 < wa1.heap.size + 1 := (by omega)
      have hx_wa1_wp1 : w.heap.size + 1 < wa1.heap.size + 1 + 1 := (by omega)
      have hc_wa1_wp1 := fun o => hb_wa1.cell (p := ⟨w.heap.size + 1, o, none⟩) (by first | omega | (simp; done) | (simp; omega))
      have hf_wa1_wp1 := fun o => hb_wa1.frozen (p := ⟨w.heap.size + 1, o, none⟩) (by first | omega | (simp; done) | (simp; omega))
      have hz_wa1_wp2 : w.heap.size + 1 + 1 < wa1.heap.size := (by have hs := hb_wa1.size; (try simp at hs); omega)
      have hy_wa1_wp2 : w.heap.size + 1 + 1 < wa1.heap.size + 1 := (by omega)
      have hx_wa1_wp2 : w.heap.size + 1 + 1 < wa1.heap.size + 1 + 1 := (by omega)
      have hc_wa1_wp2 := fun o => hb_wa1.cell (p := ⟨w.heap.size + 1 + 1, o, none⟩) (by first | omega | (simp; done) | (simp; omega))
      have hf_wa1_wp2 := fun o => hb_wa1.frozen (p := ⟨w.heap.size + 1 + 1, o, none⟩) (by first | omega | (simp; done) | (simp; omega))
      have r0_wa1 := (hc_wa1_w 0).trans (show _ = some (.complex .f64 0 0) by simp [go_sem, r0_wi0])
      have r1_wa1 := (hc_wa1_w 1).trans (show _ = some (.int .i64 0) by simp [go_sem, r1_wi0])
      clear hc_wa1_w
      go_wp2_with fail
      refine (HO.out _ (hS.below (by repeat' (first | (with_reducible exact Below.refl _ _) | (with_reducible assumption) | (with_reducible refine bl_alloc ?_ _) | (with_reducible refine bl_drew ?_) | (with_reducible refine bl_drewN ?_) | (with_reducible refine bl_setCell ?_ ?_ _) | (with_reducible refine bl_call ?_ (by with_reducible assumption)) | omega | (simp; done) | (simp; omega))))).mono ?_
      rintro e wi1 ⟨rfl, hb_wi1⟩
      have hs_wi1 := hb_wi1.size
      (try simp at hs_wi1)
      have hz_wi1_w : w.heap.size < wi1.heap.size := (by have hs := hb_wi1.size; (try simp at hs); omega)
      have hy_wi1_w : w.heap.size < wi1.heap.size + 1 := (by omega)
      have hx_wi1_w : w.heap.size < wi1.heap.size + 1 + 1 := (by omega)
      have hc_wi1_w := fun o => hb_wi1.cell (p := ⟨w.heap.size, o, none⟩) (by first | omega | (simp; done) | (simp; omega))
      have hf_wi1_w := fun o => hb_wi1.frozen (p := ⟨w.heap.size, o, none⟩) (by first | omega | (simp; done) | (simp; omega))
      have hz_wi1_wp1 : w.heap.size + 1 < wi1.heap.size := (by have hs := hb_wi1.size; (try simp at hs); omega)
      have hy_wi1_wp1 : w.heap.size + 1 < wi1.heap.size + 1 := (by omega)
      have hx_wi1_wp1 : w.heap.size + 1 < wi1.heap.size + 1 + 1 := (by omega)
      have hc_wi1_wp1 := fun o => hb_wi1.cell (p := ⟨w.heap.size + 1, o, none⟩) (by first | omega | (simp; done) | (simp; omega))
      have hf_wi1_wp1 := fun o => hb_wi1.frozen (p := ⟨w.heap.size + 1, o, none⟩) (by first | omega | (simp; done) | (simp; omega))
      have hz_wi1_wp2 : w.heap.size + 1 + 1 < wi1.heap.size := (by have hs := hb_wi1.size; (try simp at hs); omega)
      have hy_wi1_wp2 : w.heap.size + 1 + 1 < wi1.heap.size + 1 := (by omega)
      have hx_wi1_wp2 : w.heap.size + 1 + 1 < wi1.heap.size + 1 + 1 := (by omega)
      have hc_wi1_wp2 := fun o => hb_wi1.cell (p := ⟨w.heap.size + 1 + 1, o, none⟩) (by first | omega | (simp; done) | (simp; omega))
      have hf_wi1_wp2 := fun o => hb_wi1.frozen (p := ⟨w.heap.size + 1 + 1, o, none⟩) (by first | omega | (simp; done) | (simp; omega))
      have r0_wi1 := (hc_wi1_w 0).trans (show _ = some (.complex .f64 0 0) by simp [go_sem, r0_wa1])
      have r1_wi1 := (hc_wi1_w 1).trans (show _ = some (.int .i64 0) by simp [go_sem, r1_wa1])
      clear hc_wi1_w
      go_wp2
      refine bodyPost_ret (v := out (parseM s.data.toList)) (by rw [HP.out]; simp [out, results, Tryz.results18, go_sem, *]; first | done | rfl) rfl ?_
      exact ⟨rfl, (by repeat' (first | (with_reducible exact Below.refl _ _) | (with_reducible assumption) | (with_reducible refine bl_alloc ?_ _) | (with_reducible refine bl_drew ?_) | (with_reducible refine bl_drewN ?_) | (with_reducible refine bl_setCell ?_ ?_ _) | (with_reducible refine bl_call ?_ (by with_reducible assumption)) | omega | (simp; done) | (simp; omega)))⟩
    · have NN := Lib.hid n1
      have HP := Lib.hid (show parseM s.data.toList = .bad 4 from by rw [HM.out, N0.out, NN.out]; exact parse3_n2 _ _)
      have A1 := Lib.hid a1
      have I1 := Lib.hid i1
      have bv := atoi_bounds a1
      obtain ⟨bvl, bvh⟩ := bv
      obtain ⟨q, hq, T⟩ := trim_any y
      have bq : 9 < (q.size : Int) := by omega
      have HT := Lib.hid T
      clear n1 a1 i1 t1 T hq
      go_wp2_with fail
      refine (atoi_ok y v1 _ (by omega) A1.out).mono ?_
      rintro e wa1 ⟨rfl, hb_wa1⟩
      have hs_wa1 := hb_wa1.size
      (try simp at hs_wa1)
      have hz_wa1_w : w.heap.size < wa1.heap.size := (by have hs := hb_wa1.size; (try simp at hs); omega)
      have hy_wa1_w : w.heap.size < wa1.heap.size + 1 := (by omega)
      have hx_wa1_w : w.heap.size < wa1.heap.size + 1 + 1 := (by omega)
      have hc_wa1_w := fun o => hb_wa1.cell (p := ⟨w.heap.size, o, none⟩) (by first | omega | (simp; done) | (simp; omega))
      have hf_wa1_w := fun o => hb_wa1.frozen (p := ⟨w.heap.size, o, none⟩) (by first | omega | (simp; done) | (simp; omega))
      have hz_wa1_wp1 : w.heap.size + 1 < wa1.heap.size := (by have hs := hb_wa1.size; (try simp at hs); omega)
      have hy_wa1_wp1 : w.heap.size + 1 < wa1.heap.size + 1 := (by omega)
      have hx_wa1_wp1 : w.heap.size + 1 < wa1.heap.size + 1 + 1 := (by omega)
      have hc_wa1_wp1 := fun o => hb_wa1.cell (p := ⟨w.heap.size + 1, o, none⟩) (by first | omega | (simp; done) | (simp; omega))
      have hf_wa1_wp1 := fun o => hb_wa1.frozen (p := ⟨w.heap.size + 1, o, none⟩) (by first | omega | (simp; done) | (simp; omega))
      have hz_wa1_wp2 : w.heap.size + 1 + 1 < wa1.heap.size := (by have hs := hb_wa1.size; (try simp at hs); omega)
      have hy_wa1_wp2 : w.heap.size + 1 + 1 < wa1.heap.size + 1 := (by omega)
      have hx_wa1_wp2 : w.heap.size + 1 + 1 < wa1.heap.size + 1 + 1 := (by omega)
      have hc_wa1_wp2 := fun o => hb_wa1.cell (p := ⟨w.heap.size + 1 + 1, o, none⟩) (by first | omega | (simp; done) | (simp; omega))
      have hf_wa1_wp2 := fun o => hb_wa1.frozen (p := ⟨w.heap.size + 1 + 1, o, none⟩) (by first | omega | (simp; done) | (simp; omega))
      have r0_wa1 := (hc_wa1_w 0).trans (show _ = some (.complex .f64 0 0) by simp [go_sem, r0_wi0])
      have r1_wa1 := (hc_wa1_w 1).trans (show _ = some (.int .i64 0) by simp [go_sem, r1_wi0])
      clear hc_wa1_w
      go_wp2_with fail
      refine (itoa_same y v1 _ (hS.below (by repeat' (first | (with_reducible exact Below.refl _ _) | (with_reducible assumption) | (with_reducible refine bl_alloc ?_ _) | (with_reducible refine bl_drew ?_) | (with_reducible refine bl_drewN ?_) | (with_reducible refine bl_setCell ?_ ?_ _) | (with_reducible refine bl_call ?_ (by with_reducible assumption)) | omega | (simp; done) | (simp; omega)))) A1.out I1.out).mono ?_
      rintro e wi1 ⟨rfl, hb_wi1⟩
      have hs_wi1 := hb_wi1.size
      (try simp at hs_wi1)
      have hz_wi1_w : w.heap.size < wi1.heap.size := (by have hs := hb_wi1.size; (try simp at hs); omega)
      have hy_wi1_w : w.heap.size < wi1.heap.size + 1 := (by omega)
      have hx_wi1_w : w.heap.size < wi1.heap.size + 1 + 1 := (by omega)
      have hc_wi1_w := fun o => hb_wi1.cell (p := ⟨w.heap.size, o, none⟩) (by first | omega | (simp; done) | (simp; omega))
      have hf_wi1_w := fun o => hb_wi1.frozen (p := ⟨w.heap.size, o, none⟩) (by first | omega | (simp; done) | (simp; omega))
      have hz_wi1_wp1 : w.heap.size + 1 < wi1.heap.size := (by have hs := hb_wi1.size; (try simp at hs); omega)
      have hy_wi1_wp1 : w.heap.size + 1 < wi1.heap.size + 1 := (by omega)
      have hx_wi1_wp1 : w.heap.size + 1 < wi1.heap.size + 1 + 1 := (by omega)
      have hc_wi1_wp1 := fun o => hb_wi1.cell (p := ⟨w.heap.size + 1, o, none⟩) (by first | omega | (simp; done) | (simp; omega))
      have hf_wi1_wp1 := fun o => hb_wi1.frozen (p := ⟨w.heap.size + 1, o, none⟩) (by first | omega | (simp; done) | (simp; omega))
      have hz_wi1_wp2 : w.heap.size + 1 + 1 < wi1.heap.size := (by have hs := hb_wi1.size; (try simp at hs); omega)
      have hy_wi1_wp2 : w.heap.size + 1 + 1 < wi1.heap.size + 1 := (by omega)
      have hx_wi1_wp2 : w.heap.size + 1 + 1 < wi1.heap.size + 1 + 1 := (by omega)
      have hc_wi1_wp2 := fun o => hb_wi1.cell (p := ⟨w.heap.size + 1 + 1, o, none⟩) (by first | omega | (simp; done) | (simp; omega))
      have hf_wi1_wp2 := fun o => hb_wi1.frozen (p := ⟨w.heap.size + 1 + 1, o, none⟩) (by first | omega | (simp; done) | (simp; omega))
      have r0_wi1 := (hc_wi1_w 0).trans (show _ = some (.complex .f64 0 0) by simp [go_sem, r0_wa1])
      have r1_wi1 := (hc_wi1_w 1).trans (show _ = some (.int .i64 0) by simp [go_sem, r1_wa1])
      clear hc_wi1_w
      go_wp2_with fail
      refine (HT.out _).mono ?_
      rintro e w' ⟨rfl, rfl⟩
      go_wp2
      refine bodyPost_ret (v := out (parseM s.data.toList)) (by rw [HP.out]; simp [out, results, Tryz.results18, go_sem, *]; first | done | rfl) rfl ?_
      exact ⟨rfl, (by repeat' (first | (with_reducible exact Below.refl _ _) | (with_reducible assumption) | (with_reducible refine bl_alloc ?_ _) | (with_reducible refine bl_drew ?_) | (with_reducible refine bl_drewN ?_) | (with_reducible refine bl_setCell ?_ ?_ _) | (with_reducible refine bl_call ?_ (by with_reducible assumption)) | omega | (simp; done) | (simp; omega)))⟩
  · have NN := Lib.hid n0
    have HP := Lib.hid (show parseM s.data.toList = .bad 4 from by rw [HM.out, NN.out]; exact parse3_n1 _ _)
    have A0 := Lib.hid a0
    clear n0 a0
    go_wp2_with fail
    refine (atoi_bad x _ (hS.below (by repeat' (first | (with_reducible exact Below.refl _ _) | (with_reducible assumption) | (with_reducible refine bl_alloc ?_ _) | (with_reducible refine bl_drew ?_) | (with_reducible refine bl_drewN ?_) | (with_reducible refine bl_setCell ?_ ?_ _) | (with_reducible refine bl_call ?_ (by with_reducible assumption)) | omega | (simp; done) | (simp; omega)))) (by omega) A0.out).mono ?_
    rintro e wa0 ⟨vE, tE, NE, rfl, hb_wa0⟩
    have hs_wa0 := hb_wa0.size
    (try simp at hs_wa0)
    have hz_wa0_w : w.heap.size < wa0.heap.size := (by have hs := hb_wa0.size; (try simp at hs); omega)
    have hy_wa0_w : w.heap.size < wa0.heap.size + 1 := (by omega)
    have hx_wa0_w : w.heap.size < wa0.heap.size + 1 + 1 := (by omega)
    have hc_wa0_w := fun o => hb_wa0.cell (p := ⟨w.heap.size, o, none⟩) (by first | omega | (simp; done) | (simp; omega))
    have hf_wa0_w := fun o => hb_wa0.frozen (p := ⟨w.heap.size, o, none⟩) (by first | omega | (simp; done) | (simp; omega))
    have hz_wa0_wp1 : w.heap.size + 1 < wa0.heap.size := (by have hs := hb_wa0.size; (try simp at hs); omega)
    have hy_wa0_wp1 : w.heap.size + 1 < wa0.heap.size + 1 := (by omega)
    have hx_wa0_wp1 : w.heap.size + 1 < wa0.heap.size + 1 + 1 := (by omega)
    have hc_wa0_wp1 := fun o => hb_wa0.cell (p := ⟨w.heap.size + 1, o, none⟩) (by first | omega | (simp; done) | (simp; omega))
    have hf_wa0_wp1 := fun o => hb_wa0.frozen (p := ⟨w.heap.size + 1, o, none⟩) (by first | omega | (simp; done) | (simp; omega))
    have hz_wa0_wp2 : w.heap.size + 1 + 1 < wa0.heap.size := (by have hs := hb_wa0.size; (try simp at hs); omega)
    have hy_wa0_wp2 : w.heap.size + 1 + 1 < wa0.heap.size + 1 := (by omega)
    have hx_wa0_wp2 : w.heap.size + 1 + 1 < wa0.heap.size + 1 + 1 := (by omega)
    have hc_wa0_wp2 := fun o => hb_wa0.cell (p := ⟨w.heap.size + 1 + 1, o, none⟩) (by first | omega | (simp; done) | (simp; omega))
    have hf_wa0_wp2 := fun o => hb_wa0.frozen (p := ⟨w.heap.size + 1 + 1, o, none⟩) (by first | omega | (simp; done) | (simp; omega))
    have r0_wa0 := (hc_wa0_w 0).trans (show _ = some (.complex .f64 0 0) by simp [go_sem])
    have r1_wa0 := (hc_wa0_w 1).trans (show _ = some (.int .i64 0) by simp [go_sem])
    clear hc_wa0_w
    go_wp2
    refine bodyPost_ret (v := out (parseM s.data.toList)) (by rw [HP.out]; simp [out, results, Tryz.results18, go_sem, *]; first | done | rfl) rfl ?_
    exact ⟨rfl, (by repeat' (first | (with_reducible exact Below.refl _ _) | (with_reducible assumption) | (with_reducible refine bl_alloc ?_ _) | (with_reducible refine bl_drew ?_) | (with_reducible refine bl_drewN ?_) | (with_reducible refine bl_setCell ?_ ?_ _) | (with_reducible refine bl_call ?_ (by with_reducible assumption)) | omega | (simp; done) | (simp; omega)))⟩
  · have NN := Lib.hid n0
    have HP := Lib.hid (show parseM s.data.toList = .bad 4 from by rw [HM.out, NN.out]; exact parse3_n1 _ _)
    have A0 := Lib.hid a0
    have bv := atoi_bounds a0
    obtain ⟨bvl, bvh⟩ := bv
    obtain ⟨q, hq, O⟩ := itoa_other x v0 a0 i0
    have HO := Lib.hid O
    clear n0 a0 i0 O
    go_wp2_with fail
    refine (atoi_ok x v0 _ (by omega) A0.out).mono ?_
    rintro e wa0 ⟨rfl, hb_wa0⟩
    have hs_wa0 := hb_wa0.size
    (try simp at hs_wa0)
    have hz_wa0_w : w.heap.size < wa0.heap.size := (by have hs := hb_wa0.size; (try simp at hs); omega)
    have hy_wa0_w : w.heap.size < wa0.heap.size + 1 := (by omega)
    have hx_wa0_w : w.heap.size < wa0.heap.size + 1 + 1 := (by omega)
    have hc_wa0_w := fun o => hb_wa0.cell (p := ⟨w.heap.size, o, none⟩) (by first | omega | (simp; done) | (simp; omega))
    have hf_wa0_w := fun o => hb_wa0.frozen (p := ⟨w.heap.size, o, none⟩) (by first | omega | (simp; done) | (simp; omega))
    have hz_wa0_wp1 : w.heap.size + 1 < wa0.heap.size := (by have hs := hb_wa0.size; (try simp at hs); omega)
    have hy_wa0_wp1 : w.heap.size + 1 < wa0.heap.size + 1 := (by omega)
    have hx_wa0_wp1 : w.heap.size + 1 < wa0.heap.size + 1 + 1 := (by omega)
    have hc_wa0_wp1 := fun o => hb_wa0.cell (p := ⟨w.heap.size + 1, o, none⟩) (by first | omega | (simp; done) | (simp; omega))
    have hf_wa0_wp1 := fun o => hb_wa0.frozen (p := ⟨w.heap.size + 1, o, none⟩) (by first | omega | (simp; done) | (simp; omega))
    have hz_wa0_wp2 : w.heap.size + 1 + 1 < wa0.heap.size := (by have hs := hb_wa0.size; (try simp at hs); omega)
    have hy_wa0_wp2 : w.heap.size + 1 + 1 < wa0.heap.size + 1 := (by omega)
    have hx_wa0_wp2 : w.heap.size + 1 + 1 < wa0.heap.size + 1 + 1 := (by omega)
    have hc_wa0_wp2 := fun o => hb_wa0.cell (p := ⟨w.heap.size + 1 + 1, o, none⟩) (by first | omega | (simp; done) | (simp; omega))
    have hf_wa0_wp2 := fun o => hb_wa0.frozen (p := ⟨w.heap.size + 1 + 1, o, none⟩) (by first | omega | (simp; done) | (simp; omega))
    have r0_wa0 := (hc_wa0_w 0).trans (show _ = some (.complex .f64 0 0) by simp [go_sem])
    have r1_wa0 := (hc_wa0_w 1).trans (show _ = some (.int .i64 0) by simp [go_sem])
    clear hc_wa0_w
    go_wp2_with fail
    refine (HO.out _ (hS.below (by repeat' (first | (with_reducible exact Below.refl _ _) | (with_reducible assumption) | (with_reducible refine bl_alloc ?_ _) | (with_reducible refine bl_drew ?_) | (with_reducible refine bl_drewN ?_) | (with_reducible refine bl_setCell ?_ ?_ _) | (with_reducible refine bl_call ?_ (by with_reducible assumption)) | omega | (simp; done) | (simp; omega))))).mono ?_
    rintro e wi0 ⟨rfl, hb_wi0⟩
    have hs_wi0 := hb_wi0.size
    (try simp at hs_wi0)
    have hz_wi0_w : w.heap.size < wi0.heap.size := (by have hs := hb_wi0.size; (try simp at hs); omega)
    have hy_wi0_w : w.heap.size < wi0.heap.size + 1 := (by omega)
    have hx_wi0_w : w.heap.size < wi0.heap.size + 1 + 1 := (by omega)
    have hc_wi0_w := fun o => hb_wi0.cell (p := ⟨w.heap.size, o, none⟩) (by first | omega | (simp; done) | (simp; omega))
    have hf_wi0_w := fun o => hb_wi0.frozen (p := ⟨w.heap.size, o, none⟩) (by first | omega | (simp; done) | (simp; omega))
    have hz_wi0_wp1 : w.heap.size + 1 < wi0.heap.size := (by have hs := hb_wi0.size; (try simp at hs); omega)
    have hy_wi0_wp1 : w.heap.size + 1 < wi0.heap.size + 1 := (by omega)
    have hx_wi0_wp1 : w.heap.size + 1 < wi0.heap.size + 1 + 1 := (by omega)
    have hc_wi0_wp1 := fun o => hb_wi0.cell (p := ⟨w.heap.size + 1, o, none⟩) (by first | omega | (simp; done) | (simp; omega))
    have hf_wi0_wp1 := fun o => hb_wi0.frozen (p := ⟨w.heap.size + 1, o, none⟩) (by first | omega | (simp; done) | (simp; omega))
    have hz_wi0_wp2 : w.heap.size + 1 + 1 < wi0.heap.size := (by have hs := hb_wi0.size; (try simp at hs); omega)
    have hy_wi0_wp2 : w.heap.size + 1 + 1 < wi0.heap.size + 1 := (by omega)
    have hx_wi0_wp2 : w.heap.size + 1 + 1 < wi0.heap.size + 1 + 1 := (by omega)
    have hc_wi0_wp2 := fun o => hb_wi0.cell (p := ⟨w.heap.size + 1 + 1, o, none⟩) (by first | omega | (simp; done) | (simp; omega))
    have hf_wi0_wp2 := fun o => hb_wi0.frozen (p := ⟨w.heap.size + 1 + 1, o, none⟩) (by first | omega | (simp; done) | (simp; omega))
    have r0_wi0 := (hc_wi0_w 0).trans (show _ = some (.complex .f64 0 0) by simp [go_sem, r0_wa0])
    have r1_wi0 := (hc_wi0_w 1).trans (show _ = some (.int .i64 0) by simp [go_sem, r1_wa0])
    clear hc_wi0_w
    go_wp2
    refine bodyPost_ret (v := out (parseM s.data.toList)) (by rw [HP.out]; simp [out, results, Tryz.results18, go_sem, *]; first | done | rfl) rfl ?_
    exact ⟨rfl, (by repeat' (first | (with_reducible exact Below.refl _ _) | (with_reducible assumption) | (with_reducible refine bl_alloc ?_ _) | (with_reducible refine bl_drew ?_) | (with_reducible refine bl_drewN ?_) | (with_reducible refine bl_setCell ?_ ?_ _) | (with_reducible refine bl_call ?_ (by with_reducible assumption)) | omega | (simp; done) | (simp; omega)))⟩
  · have NN := Lib.hid n0
    have HP := Lib.hid (show parseM s.data.toList = .bad 4 from by rw [HM.out, NN.out]; exact parse3_n1 _ _)
    have A0 := Lib.hid a0
    have I0 := Lib.hid i0
    have bv := atoi_bounds a0
    obtain ⟨bvl, bvh⟩ := bv
    obtain ⟨q, hq, T⟩ := trim_any x
    have bq : 9 < (q.size : Int) := by omega
    have HT := Lib.hid T
    clear n0 a0 i0 t0 T hq
    go_wp2_with fail
    refine (atoi_ok x v0 _ (by omega) A0.out).mono ?_
    rintro e wa0 ⟨rfl, hb_wa0⟩
    have hs_wa0 := hb_wa0.size
    (try simp at hs_wa0)
    have hz_wa0_w : w.heap.size < wa0.heap.size := (by have hs := hb_wa0.size; (try simp at hs); omega)
    have hy_wa0_w : w.heap.size < wa0.heap.size + 1 := (by omega)
    have hx_wa0_w : w.heap.size < wa0.heap.size + 1 + 1 := (by omega)
    have hc_wa0_w := fun o => hb_wa0.cell (p := ⟨w.heap.size, o, none⟩) (by first | omega | (simp; done) | (simp; omega))
    have hf_wa0_w := fun o => hb_wa0.frozen (p := ⟨w.heap.size, o, none⟩) (by first | omega | (simp; done) | (simp; omega))
    have hz_wa0_wp1 : w.heap.size + 1 < wa0.heap.size := (by have hs := hb_wa0.size; (try simp at hs); omega)
    have hy_wa0_wp1 : w.heap.size + 1 < wa0.heap.size + 1 := (by omega)
    have hx_wa0_wp1 : w.heap.size + 1 < wa0.heap.size + 1 + 1 := (by omega)
    have hc_wa0_wp1 := fun o => hb_wa0.cell (p := ⟨w.heap.size + 1, o, none⟩) (by first | omega | (simp; done) | (simp; omega))
    have hf_wa0_wp1 := fun o => hb_wa0.frozen (p := ⟨w.heap.size + 1, o, none⟩) (by first | omega | (simp; done) | (simp; omega))
    have hz_wa0_wp2 : w.heap.size + 1 + 1 < wa0.heap.size := (by have hs := hb_wa0.size; (try simp at hs); omega)
    have hy_wa0_wp2 : w.heap.size + 1 + 1 < wa0.heap.size + 1 := (by omega)
    have hx_wa0_wp2 : w.heap.size + 1 + 1 < wa0.heap.size + 1 + 1 := (by omega)
    have hc_wa0_wp2 := fun o => hb_wa0.cell (p := ⟨w.heap.size + 1 + 1, o, none⟩) (by first | omega | (simp; done) | (simp; omega))
    have hf_wa0_wp2 := fun o => hb_wa0.frozen (p := ⟨w.heap.size + 1 + 1, o, none⟩) (by first | omega | (simp; done) | (simp; omega))
    have r0_wa0 := (hc_wa0_w 0).trans (show _ = some (.complex .f64 0 0) by simp [go_sem])
    have r1_wa0 := (hc_wa0_w 1).trans (show _ = some (.int .i64 0) by simp [go_sem])
    clear hc_wa0_w
    go_wp2_with fail
    refine (itoa_same x v0 _ (hS.below (by repeat' (first | (with_reducible exact Below.refl _ _) | (with_reducible assumption) | (with_reducible refine bl_alloc ?_ _) | (with_reducible refine bl_drew ?_) | (with_reducible refine bl_drewN ?_) | (with_reducible refine bl_setCell ?_ ?_ _) | (with_reducible refine bl_call ?_ (by with_reducible assumption)) | omega | (simp; done) | (simp; omega)))) A0.out I0.out).mono ?_
    rintro e wi0 ⟨rfl, hb_wi0⟩
    have hs_wi0 := hb_wi0.size
    (try simp at hs_wi0)
    have hz_wi0_w : w.heap.size < wi0.heap.size := (by have hs := hb_wi0.size; (try simp at hs); omega)
    have hy_wi0_w : w.heap.size < wi0.heap.size + 1 := (by omega)
    have hx_wi0_w : w.heap.size < wi0.heap.size + 1 + 1 := (by omega)
    have hc_wi0_w := fun o => hb_wi0.cell (p := ⟨w.heap.size, o, none⟩) (by first | omega | (simp; done) | (simp; omega))
    have hf_wi0_w := fun o => hb_wi0.frozen (p := ⟨w.heap.size, o, none⟩) (by first | omega | (simp; done) | (simp; omega))
    have hz_wi0_wp1 : w.heap.size + 1 < wi0.heap.size := (by have hs := hb_wi0.size; (try simp at hs); omega)
    have hy_wi0_wp1 : w.heap.size + 1 < wi0.heap.size + 1 := (by omega)
    have hx_wi0_wp1 : w.heap.size + 1 < wi0.heap.size + 1 + 1 := (by omega)
    have hc_wi0_wp1 := fun o => hb_wi0.cell (p := ⟨w.heap.size + 1, o, none⟩) (by first | omega | (simp; done) | (simp; omega))
    have hf_wi0_wp1 := fun o => hb_wi0.frozen (p := ⟨w.heap.size + 1, o, none⟩) (by first | omega | (simp; done) | (simp; omega))
    have hz_wi0_wp2 : w.heap.size + 1 + 1 < wi0.heap.size := (by have hs := hb_wi0.size; (try simp at hs); omega)
    have hy_wi0_wp2 : w.heap.size + 1 + 1 < wi0.heap.size + 1 := (by omega)
    have hx_wi0_wp2 : w.heap.size + 1 + 1 < wi0.heap.size + 1 + 1 := (by omega)
    have hc_wi0_wp2 := fun o => hb_wi0.cell (p := ⟨w.heap.size + 1 + 1, o, none⟩) (by first | omega | (simp; done) | (simp; omega))
    have hf_wi0_wp2 := fun o => hb_wi0.frozen (p := ⟨w.heap.size + 1 + 1, o, none⟩) (by first | omega | (simp; done) | (simp; omega))
    have r0_wi0 := (hc_wi0_w 0).trans (show _ = some (.complex .f64 0 0) by simp [go_sem, r0_wa0])
    have r1_wi0 := (hc_wi0_w 1).trans (show _ = some (.int .i64 0) by simp [go_sem, r1_wa0])
    clear hc_wi0_w
    go_wp2_with fail
    refine (HT.out _).mono ?_
    rintro e w' ⟨rfl, rfl⟩
    go_wp2
    refine bodyPost_ret (v := out (parseM s.data.toList)) (by rw [HP.out]; simp [out, results, Tryz.results18, go_sem, *]; first | done | rfl) rfl ?_
    exact ⟨rfl, (by repeat' (first | (with_reducible exact Below.refl _ _) | (with_reducible assumption) | (with_reducible refine bl_alloc ?_ _) | (with_reducible refine bl_drew ?_) | (with_reducible refine bl_drewN ?_) | (with_reducible refine bl_setCell ?_ ?_ _) | (with_reducible refine bl_call ?_ (by with_reducible assumption)) | omega | (simp; done) | (simp; omega)))⟩

set_option maxRecDepth 100000 in
set_option maxHeartbeats 1000000 in
theorem parse_other (s : ByteArray) (w : World) (hS : Std w) (hs : s.size ≤ 1000000) (h : (cutL 32 s.data.toList).length ≠ 3) :
    Calls Tryz.prog 18 #[.string s] w fun e w' => e = .returned (out (parseM s.data.toList)) ∧ Below w.heap.size w w' := by
  obtain ⟨n, hn, hsp⟩ := split_other s hs h
  have t1 : ((n : Int) != 3) = true := by rw [bne_iff_ne]; omega
  have HP := Lib.hid (parseM_short h)
  have SP := Lib.hid hsp
  clear hsp h hn
  go_enter Tryz.func18, Tryz.ntmps18
  go_wp2_with fail
  refine (SP.out _ (hS.below (by repeat' (first | (with_reducible exact Below.refl _ _) | (with_reducible assumption) | (with_reducible refine bl_alloc ?_ _) | (with_reducible refine bl_drew ?_) | (with_reducible refine bl_drewN ?_) | (with_reducible refine bl_setCell ?_ ?_ _) | (with_reducible refine bl_call ?_ (by with_reducible assumption)) | omega | (simp; done) | (simp; omega))))).mono ?_
  rintro e w1 ⟨rfl, hb_w1⟩
  have hs_w1 := hb_w1.size
  (try simp at hs_w1)
  have hz_w1_w : w.heap.size < w1.heap.size := (by have hs := hb_w1.size; (try simp at hs); omega)
  have hy_w1_w : w.heap.size < w1.heap.size + 1 := (by omega)
  have hx_w1_w : w.heap.size < w1.heap.size + 1 + 1 := (by omega)
  have hc_w1_w := fun o => hb_w1.cell (p := ⟨w.heap.size, o, none⟩) (by first | omega | (simp; done) | (simp; omega))
  have hf_w1_w := fun o => hb_w1.frozen (p := ⟨w.heap.size, o, none⟩) (by first | omega | (simp; done) | (simp; omega))
  go_wp2
  refine bodyPost_ret (v := out (parseM s.data.toList)) (by rw [HP.out]; simp [out, results, Tryz.results18, go_sem, *]; first | done | rfl) rfl ?_
  exact ⟨rfl, (by repeat' (first | (with_reducible exact Below.refl _ _) | (with_reducible assumption) | (with_reducible refine bl_alloc ?_ _) | (with_reducible refine bl_drew ?_) | (with_reducible refine bl_drewN ?_) | (with_reducible refine bl_setCell ?_ ?_ _) | (with_reducible refine bl_call ?_ (by with_reducible assumption)) | omega | (simp; done) | (simp; omega)))⟩

theorem Parse_any (s : ByteArray) (w : World) (hS : Std w) (hs : s.size ≤ 1000000) :
    Calls Tryz.prog 18 #[.string s] w fun e w' => e = .returned (out (parseM s.data.toList)) ∧ Below w.heap.size w w' := by
  by_cases h : (cutL 32 s.data.toList).length = 3
  · match hl : cutL 32 s.data.toList, h with
    | [a, b, c], _ => exact parse_three s w hS hs hl
  · exact parse_other s w hS hs h
end Go.Proofs.YtjgmjnjpgdadhaaGreatDoor
