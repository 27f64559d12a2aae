/- The walks of the root of a ball: of the program. -/
import Derived.Test.YtjgmjnjpgdadhaaQuo1
import Derived.Test.YtjgmjnjpgdadhaaDrew
namespace Go.Proofs.Ytjgmjnjpgdadhaa
open Go.RowKit

set_option maxHeartbeats 2000000 in
theorem root1_zero (a b r m : Int) (w : World) (h : m ≤ r)
    (cd : ∀ w, Calls Try.prog 81 #[.agg #[.int .i64 a, .int .i64 b]] w fun e w' => e = .returned (.int .i64 m) ∧ Below w.heap.size w w') :
    Calls Try.prog 109 #[.agg #[.int .i64 a, .int .i64 b, .int .i64 r]] w fun e w' => e = .returned (.tuple #[.agg #[.int .i64 a, .int .i64 b, .int .i64 r], .int .i64 9]) ∧ Below w.heap.size w w' := by
  have CD := Lib.hid cd
  clear cd
  go_enter Try.func109, Try.ntmps109
  go_wp2_with fail
  refine (CD.out _).mono ?_
  rintro e w1 ⟨rfl, hb_w1⟩
  have hs_w1 := hb_w1.size
  (try simp at hs_w1)
  have hz_w1_w : w.heap.size < w1.heap.size := (by have hs := hb_w1.size; (try simp at hs); omega)
  have hy_w1_w : w.heap.size < w1.heap.size + 1 := (by omega)
  have hx_w1_w : w.heap.size < w1.heap.size + 1 + 1 := (by omega)
  have hc_w1_w := fun o => hb_w1.cell (p := ⟨w.heap.size, o, none⟩) (by first | omega | (simp; done) | (simp; omega))
  have hf_w1_w := fun o => hb_w1.frozen (p := ⟨w.heap.size, o, none⟩) (by first | omega | (simp; done) | (simp; omega))
  have hz_w1_wp1 : w.heap.size + 1 < w1.heap.size := (by have hs := hb_w1.size; (try simp at hs); omega)
  have hy_w1_wp1 : w.heap.size + 1 < w1.heap.size + 1 := (by omega)
  have hx_w1_wp1 : w.heap.size + 1 < w1.heap.size + 1 + 1 := (by omega)
  have hc_w1_wp1 := fun o => hb_w1.cell (p := ⟨w.heap.size + 1, o, none⟩) (by first | omega | (simp; done) | (simp; omega))
  have hf_w1_wp1 := fun o => hb_w1.frozen (p := ⟨w.heap.size + 1, o, none⟩) (by first | omega | (simp; done) | (simp; omega))
  go_wp2
  refine bodyPost_ret (by simp [results, Try.results109, go_sem, *]; first | done | rfl) rfl ?_
  exact ⟨rfl, (by repeat' (first | (with_reducible exact Below.refl _ _) | (with_reducible assumption) | (with_reducible refine bl_alloc ?_ _) | (with_reducible refine bl_drew ?_) | (with_reducible refine bl_drewN ?_) | (with_reducible refine bl_setCell ?_ ?_ _) | (with_reducible refine bl_call ?_ (by with_reducible assumption)) | omega | (simp; done) | (simp; omega)))⟩

set_option maxHeartbeats 2000000 in
theorem root1_clash (a b r m : Int) (w : World) (h : r < m) (ha : a < 0) (hb : -r ≤ b ∧ b ≤ r) (r0 : 0 ≤ r) (r1 : r ≤ 67108864) (hr : r ≠ 0)
    (cd : ∀ w, Calls Try.prog 81 #[.agg #[.int .i64 a, .int .i64 b]] w fun e w' => e = .returned (.int .i64 m) ∧ Below w.heap.size w w') :
    Calls Try.prog 109 #[.agg #[.int .i64 a, .int .i64 b, .int .i64 r]] w fun e w' => e = .returned (.tuple #[.agg #[.int .i64 a, .int .i64 b, .int .i64 r], .int .i64 14]) ∧ Below w.heap.size w w' := by
  have CD := Lib.hid cd
  clear cd
  have s1 : (decide (-r ≤ b) && decide (b ≤ r)) = true := by simp [hb.1, hb.2]
  have hr' : (r != 0) = true := by simpa using hr
  clear hr
  go_enter Try.func109, Try.ntmps109
  go_wp2_with fail
  refine (CD.out _).mono ?_
  rintro e w1 ⟨rfl, hb_w1⟩
  have hs_w1 := hb_w1.size
  (try simp at hs_w1)
  have hz_w1_w : w.heap.size < w1.heap.size := (by have hs := hb_w1.size; (try simp at hs); omega)
  have hy_w1_w : w.heap.size < w1.heap.size + 1 := (by omega)
  have hx_w1_w : w.heap.size < w1.heap.size + 1 + 1 := (by omega)
  have hc_w1_w := fun o => hb_w1.cell (p := ⟨w.heap.size, o, none⟩) (by first | omega | (simp; done) | (simp; omega))
  have hf_w1_w := fun o => hb_w1.frozen (p := ⟨w.heap.size, o, none⟩) (by first | omega | (simp; done) | (simp; omega))
  have hz_w1_wp1 : w.heap.size + 1 < w1.heap.size := (by have hs := hb_w1.size; (try simp at hs); omega)
  have hy_w1_wp1 : w.heap.size + 1 < w1.heap.size + 1 := (by omega)
  have hx_w1_wp1 : w.heap.size + 1 < w1.heap.size + 1 + 1 := (by omega)
  have hc_w1_wp1 := fun o => hb_w1.cell (p := ⟨w.heap.size + 1, o, none⟩) (by first | omega | (simp; done) | (simp; omega))
  have hf_w1_wp1 := fun o => hb_w1.frozen (p := ⟨w.heap.size + 1, o, none⟩) (by first | omega | (simp; done) | (simp; omega))
  go_wp2_with fail
  refine (small_any _ _ _ (by omega) (by omega)).mono ?_
  rintro e w' ⟨rfl, rfl⟩
  rw [s1]
  go_wp2
  refine bodyPost_ret (by simp [results, Try.results109, go_sem, *]; first | done | rfl) rfl ?_
  exact ⟨rfl, (by repeat' (first | (with_reducible exact Below.refl _ _) | (with_reducible assumption) | (with_reducible refine bl_alloc ?_ _) | (with_reducible refine bl_drew ?_) | (with_reducible refine bl_drewN ?_) | (with_reducible refine bl_setCell ?_ ?_ _) | (with_reducible refine bl_call ?_ (by with_reducible assumption)) | omega | (simp; done) | (simp; omega)))⟩

/-- What the walk behind both tests asks of the numbers. -/
structure RootNums (a b r m w0 Q V : Int) (W2 : Nat) : Prop where
  m0 : 0 ≤ m
  m1 : m ≤ 1073741824
  w1 : 1 ≤ w0
  w2 : w0 ≤ 1073741824
  eW : ((W2 : Nat) : Int) = 2 * w0
  V1 : 1 ≤ V
  V2 : V ≤ 1073741824
  a1 : -67108864 ≤ a ∧ a ≤ 67108864
  b1 : -67108864 ≤ b ∧ b ≤ 67108864
  r0 : 0 ≤ r
  r1 : r ≤ 67108864

set_option maxHeartbeats 4000000 in
theorem root1_pos (a b r m w0 Q V : Int) (q : Bool) (W2 : Nat) (w : World) (N : RootNums a b r m w0 Q V W2) (h : r < m) (ha : 0 ≤ a)
    (cd : ∀ w, Calls Try.prog 81 #[.agg #[.int .i64 a, .int .i64 b]] w fun e w' => e = .returned (.int .i64 m) ∧ Below w.heap.size w w')
    (cr : ∀ w, Calls Try.prog 110 #[.int .i64 ((m + a) * 524288)] w fun e w' => e = .returned (.int .i64 w0) ∧ w' = w)
    (cq : ∀ w, Calls Try.prog 83 #[.int .i64 b, .int .i64 1048576, .int .i64 (2 * w0)] w fun e w' => e = .returned (.tuple #[.int .i64 Q, .bool q]) ∧ ∃ k, w' = w.drewN k)
    (cv : ∀ w, Calls Try.prog 110 #[.int .i64 (m * 1048576)] w fun e w' => e = .returned (.int .i64 V) ∧ w' = w) :
    Calls Try.prog 109 #[.agg #[.int .i64 a, .int .i64 b, .int .i64 r]] w fun e w' => e = .returned (.tuple #[.agg #[.int .i64 w0, .int .i64 Q, .int .i64 (-(-(r * 1048576) / V) + 3 + -(-1048576 / w0))], .int .i64 0]) ∧ Below w.heap.size w w' := by
  obtain ⟨m0, m1, w1, w2, eW, V1, V2, a1, b1, r0, r1⟩ := N
  have CD := Lib.hid cd
  have CR := Lib.hid cr
  have CQ := Lib.hid cq
  have CV := Lib.hid cv
  have na : ((a.natAbs : Nat) : Int) = a := by omega
  have SA := Lib.hid (fun w => size_any a w (by omega) (by omega))
  rw [na] at SA
  have CE := Lib.hid (fun w => ceil_any (r * 1048576) V w (by omega) (by omega) (by omega) (by omega))
  have CF := Lib.hid (fun w => ceil_any 1048576 w0 w (by omega) (by omega) (by omega) (by omega))
  have B1 : -70368744177664 ≤ -(-(r * 1048576) / V) ∧ -(-(r * 1048576) / V) ≤ 70368744177664 := by
    have := ediv_lo (n := -(r * 1048576)) (lo := -70368744177664) V1 (by omega) (by omega)
    have := ediv_hi (n := -(r * 1048576)) (hi := 70368744177664) V1 (by omega) (by omega)
    omega
  have B2 : -1048576 ≤ -(-1048576 / w0) ∧ -(-1048576 / w0) ≤ 1048576 := by
    have := ediv_lo (n := -1048576) (lo := -1048576) w1 (by omega) (by omega)
    have := ediv_hi (n := -1048576) (hi := 1048576) w1 (by omega) (by omega)
    omega
  generalize -(-(r * 1048576) / V) = E at *
  generalize -(-1048576 / w0) = F at *
  clear cd cr cq cv na eW
  have e1 : IntKind.i64.wrap (r * 1048576) = r * 1048576 := IntWalk.i64_in _ (by omega)
  have e2 : IntKind.i64.wrap (m * 1048576) = m * 1048576 := IntWalk.i64_in _ (by omega)
  go_enter Try.func109, Try.ntmps109
  go_wp2_with fail
  refine (CD.out _).mono ?_
  rintro e w1 ⟨rfl, hb_w1⟩
  have hs_w1 := hb_w1.size
  (try simp at hs_w1)
  have hz_w1_w : w.heap.size < w1.heap.size := (by have hs := hb_w1.size; (try simp at hs); omega)
  have hy_w1_w : w.heap.size < w1.heap.size + 1 := (by omega)
  have hx_w1_w : w.heap.size < w1.heap.size + 1 + 1 := (by omega)
  have hc_w1_w := fun o => hb_w1.cell (p := ⟨w.heap.size, o, none⟩) (by first | omega | (simp; done) | (simp; omega))
  have hf_w1_w := fun o => hb_w1.frozen (p := ⟨w.heap.size, o, none⟩) (by first | omega | (simp; done) | (simp; omega))
  have hz_w1_wp1 : w.heap.size + 1 < w1.heap.size := (by have hs := hb_w1.size; (try simp at hs); omega)
  have hy_w1_wp1 : w.heap.size + 1 < w1.heap.size + 1 := (by omega)
  have hx_w1_wp1 : w.heap.size + 1 < w1.heap.size + 1 + 1 := (by omega)
  have hc_w1_wp1 := fun o => hb_w1.cell (p := ⟨w.heap.size + 1, o, none⟩) (by first | omega | (simp; done) | (simp; omega))
  have hf_w1_wp1 := fun o => hb_w1.frozen (p := ⟨w.heap.size + 1, o, none⟩) (by first | omega | (simp; done) | (simp; omega))
  go_wp2_with fail
  refine (SA.out _).mono ?_
  rintro e w' ⟨rfl, rfl⟩
  go_wp2_with fail
  refine (CR.out _).mono ?_
  rintro e w' ⟨rfl, rfl⟩
  go_wp2_with fail
  refine (drew_bel (CQ.out _)).mono ?_
  rintro e w2 ⟨rfl, hb_w2⟩
  have hs_w2 := hb_w2.size
  (try simp at hs_w2)
  have hz_w2_w : w.heap.size < w2.heap.size := (by have hs := hb_w2.size; (try simp at hs); omega)
  have hy_w2_w : w.heap.size < w2.heap.size + 1 := (by omega)
  have hx_w2_w : w.heap.size < w2.heap.size + 1 + 1 := (by omega)
  have hc_w2_w := fun o => hb_w2.cell (p := ⟨w.heap.size, o, none⟩) (by first | omega | (simp; done) | (simp; omega))
  have hf_w2_w := fun o => hb_w2.frozen (p := ⟨w.heap.size, o, none⟩) (by first | omega | (simp; done) | (simp; omega))
  have hz_w2_wp1 : w.heap.size + 1 < w2.heap.size := (by have hs := hb_w2.size; (try simp at hs); omega)
  have hy_w2_wp1 : w.heap.size + 1 < w2.heap.size + 1 := (by omega)
  have hx_w2_wp1 : w.heap.size + 1 < w2.heap.size + 1 + 1 := (by omega)
  have hc_w2_wp1 := fun o => hb_w2.cell (p := ⟨w.heap.size + 1, o, none⟩) (by first | omega | (simp; done) | (simp; omega))
  have hf_w2_wp1 := fun o => hb_w2.frozen (p := ⟨w.heap.size + 1, o, none⟩) (by first | omega | (simp; done) | (simp; omega))
  go_wp2_with fail
  refine calm 13 (by kernel_rfl) (by kernel_rfl) fun hG => ?_
  have hg_w := hG (w.heap.size) (by first | omega | (simp; done) | (simp; omega))
  have hg_wp1 := hG (w.heap.size + 1) (by first | omega | (simp; done) | (simp; omega))
  have hg_w2 := hG (w2.heap.size) (by first | omega | (simp; done) | (simp; omega))
  clear hG
  simp only [List.take_succ_cons, List.take_zero, List.drop_succ_cons, List.drop_zero]
  repeat (go_big_quiet_step (first | (go_at_call 110; with_reducible exact calm_same CV.out) | (go_at_call 70; first | with_reducible exact calm_same CE.out | with_reducible exact calm_same CF.out)))
  refine wpQuiet_nil ?_
  intro w3 hb_w3
  clear hg_w hg_wp1 hg_w2
  have hs_w3 := hb_w3.size
  (try simp at hs_w3)
  have hz_w3_w : w.heap.size < w3.heap.size := (by have hs := hb_w3.size; (try simp at hs); omega)
  have hy_w3_w : w.heap.size < w3.heap.size + 1 := (by omega)
  have hx_w3_w : w.heap.size < w3.heap.size + 1 + 1 := (by omega)
  have hc_w3_w := fun o => hb_w3.cell (p := ⟨w.heap.size, o, none⟩) (by first | omega | (simp; done) | (simp; omega))
  have hf_w3_w := fun o => hb_w3.frozen (p := ⟨w.heap.size, o, none⟩) (by first | omega | (simp; done) | (simp; omega))
  have hz_w3_wp1 : w.heap.size + 1 < w3.heap.size := (by have hs := hb_w3.size; (try simp at hs); omega)
  have hy_w3_wp1 : w.heap.size + 1 < w3.heap.size + 1 := (by omega)
  have hx_w3_wp1 : w.heap.size + 1 < w3.heap.size + 1 + 1 := (by omega)
  have hc_w3_wp1 := fun o => hb_w3.cell (p := ⟨w.heap.size + 1, o, none⟩) (by first | omega | (simp; done) | (simp; omega))
  have hf_w3_wp1 := fun o => hb_w3.frozen (p := ⟨w.heap.size + 1, o, none⟩) (by first | omega | (simp; done) | (simp; omega))
  have hz_w3_w2 : w2.heap.size < w3.heap.size := (by have hs := hb_w3.size; (try simp at hs); omega)
  have hy_w3_w2 : w2.heap.size < w3.heap.size + 1 := (by omega)
  have hx_w3_w2 : w2.heap.size < w3.heap.size + 1 + 1 := (by omega)
  have hc_w3_w2 := fun o => hb_w3.cell (p := ⟨w2.heap.size, o, none⟩) (by first | omega | (simp; done) | (simp; omega))
  have hf_w3_w2 := fun o => hb_w3.frozen (p := ⟨w2.heap.size, o, none⟩) (by first | omega | (simp; done) | (simp; omega))
  go_wp2
  refine bodyPost_ret (by simp [results, Try.results109, go_sem, *]; first | done | rfl) rfl ?_
  exact ⟨rfl, (by repeat' (first | (with_reducible exact Below.refl _ _) | (with_reducible assumption) | (with_reducible refine bl_alloc ?_ _) | (with_reducible refine bl_drew ?_) | (with_reducible refine bl_drewN ?_) | (with_reducible refine bl_setCell ?_ ?_ _) | (with_reducible refine bl_call ?_ (by with_reducible assumption)) | omega | (simp; done) | (simp; omega)))⟩

set_option maxHeartbeats 4000000 in
theorem root1_neg (a b r m w0 Q0 Q V y0 : Int) (q0 q : Bool) (W2 : Nat) (w : World) (N : RootNums a b r m w0 Q V W2) (h : r < m) (ha : a < 0) (hb : (¬ (-r ≤ b ∧ b ≤ r)) ∨ r = 0) (hy : (0 ≤ b ∧ y0 = w0) ∨ (b < 0 ∧ y0 = -w0))
    (cd : ∀ w, Calls Try.prog 81 #[.agg #[.int .i64 a, .int .i64 b]] w fun e w' => e = .returned (.int .i64 m) ∧ Below w.heap.size w w')
    (cr : ∀ w, Calls Try.prog 110 #[.int .i64 ((m + -a) * 524288)] w fun e w' => e = .returned (.int .i64 w0) ∧ w' = w)
    (cp : ∀ w, Calls Try.prog 83 #[.int .i64 b, .int .i64 1048576, .int .i64 (2 * w0)] w fun e w' => e = .returned (.tuple #[.int .i64 Q0, .bool q0]) ∧ ∃ k, w' = w.drewN k)
    (cq : ∀ w, Calls Try.prog 83 #[.int .i64 (b.natAbs : Nat), .int .i64 1048576, .int .i64 (2 * w0)] w fun e w' => e = .returned (.tuple #[.int .i64 Q, .bool q]) ∧ ∃ k, w' = w.drewN k)
    (cv : ∀ w, Calls Try.prog 110 #[.int .i64 (m * 1048576)] w fun e w' => e = .returned (.int .i64 V) ∧ w' = w) :
    Calls Try.prog 109 #[.agg #[.int .i64 a, .int .i64 b, .int .i64 r]] w fun e w' => e = .returned (.tuple #[.agg #[.int .i64 Q, .int .i64 y0, .int .i64 (-(-(r * 1048576) / V) + 3 + -(-1048576 / w0))], .int .i64 0]) ∧ Below w.heap.size w w' := by
  obtain ⟨m0, m1, w1, w2, eW, V1, V2, a1, b1, r0, r1⟩ := N
  have CD := Lib.hid cd
  have CR := Lib.hid cr
  have CP := Lib.hid cp
  have CQ := Lib.hid cq
  have CV := Lib.hid cv
  have na : ((a.natAbs : Nat) : Int) = -a := by omega
  have SA := Lib.hid (fun w => size_any a w (by omega) (by omega))
  have SB := Lib.hid (fun w => size_any b w (by omega) (by omega))
  rw [na] at SA
  have CE := Lib.hid (fun w => ceil_any (r * 1048576) V w (by omega) (by omega) (by omega) (by omega))
  have CF := Lib.hid (fun w => ceil_any 1048576 w0 w (by omega) (by omega) (by omega) (by omega))
  have B1 : -70368744177664 ≤ -(-(r * 1048576) / V) ∧ -(-(r * 1048576) / V) ≤ 70368744177664 := by
    have := ediv_lo (n := -(r * 1048576)) (lo := -70368744177664) V1 (by omega) (by omega)
    have := ediv_hi (n := -(r * 1048576)) (hi := 70368744177664) V1 (by omega) (by omega)
    omega
  have B2 : -1048576 ≤ -(-1048576 / w0) ∧ -(-1048576 / w0) ≤ 1048576 := by
    have := ediv_lo (n := -1048576) (lo := -1048576) w1 (by omega) (by omega)
    have := ediv_hi (n := -1048576) (hi := 1048576) w1 (by omega) (by omega)
    omega
  generalize -(-(r * 1048576) / V) = E at *
  generalize -(-1048576 / w0) = F at *
  clear cd cr cp cq cv na eW
  have e1 : IntKind.i64.wrap (r * 1048576) = r * 1048576 := IntWalk.i64_in _ (by omega)
  have e2 : IntKind.i64.wrap (m * 1048576) = m * 1048576 := IntWalk.i64_in _ (by omega)
  obtain ⟨s, hs⟩ : ∃ s, (decide (-r ≤ b) && decide (b ≤ r)) = s := ⟨_, rfl⟩
  have hsr : s = false ∨ (s = true ∧ (r != 0) = false) := by
    rcases hb with hb | hb
    · left; rw [← hs, Bool.eq_false_iff]; simp; omega
    · cases s
      · exact .inl rfl
      · exact .inr ⟨rfl, by simpa using hb⟩
  have HS := Lib.hid hs
  clear hs hb
  rcases hy with ⟨hy, rfl⟩ | ⟨hy, rfl⟩ <;> rcases hsr with rfl | ⟨rfl, hr0⟩
  ·
    go_enter Try.func109, Try.ntmps109
    go_wp2_with fail
    refine (CD.out _).mono ?_
    rintro e w1 ⟨rfl, hb_w1⟩
    have hs_w1 := hb_w1.size
    (try simp at hs_w1)
    have hz_w1_w : w.heap.size < w1.heap.size := (by have hs := hb_w1.size; (try simp at hs); omega)
    have hy_w1_w : w.heap.size < w1.heap.size + 1 := (by omega)
    have hx_w1_w : w.heap.size < w1.heap.size + 1 + 1 := (by omega)
    have hc_w1_w := fun o => hb_w1.cell (p := ⟨w.heap.size, o, none⟩) (by first | omega | (simp; done) | (simp; omega))
    have hf_w1_w := fun o => hb_w1.frozen (p := ⟨w.heap.size, o, none⟩) (by first | omega | (simp; done) | (simp; omega))
    have hz_w1_wp1 : w.heap.size + 1 < w1.heap.size := (by have hs := hb_w1.size; (try simp at hs); omega)
    have hy_w1_wp1 : w.heap.size + 1 < w1.heap.size + 1 := (by omega)
    have hx_w1_wp1 : w.heap.size + 1 < w1.heap.size + 1 + 1 := (by omega)
    have hc_w1_wp1 := fun o => hb_w1.cell (p := ⟨w.heap.size + 1, o, none⟩) (by first | omega | (simp; done) | (simp; omega))
    have hf_w1_wp1 := fun o => hb_w1.frozen (p := ⟨w.heap.size + 1, o, none⟩) (by first | omega | (simp; done) | (simp; omega))
    go_wp2_with fail
    refine (small_any _ _ _ (by omega) (by omega)).mono ?_
    rintro e w' ⟨rfl, rfl⟩
    rw [HS.out]
    go_wp2_with fail
    refine (SA.out _).mono ?_
    rintro e w' ⟨rfl, rfl⟩
    go_wp2_with fail
    refine (CR.out _).mono ?_
    rintro e w' ⟨rfl, rfl⟩
    go_wp2_with fail
    refine (drew_bel (CP.out _)).mono ?_
    rintro e w2 ⟨rfl, hb_w2⟩
    have hs_w2 := hb_w2.size
    (try simp at hs_w2)
    have hz_w2_w : w.heap.size < w2.heap.size := (by have hs := hb_w2.size; (try simp at hs); omega)
    have hy_w2_w : w.heap.size < w2.heap.size + 1 := (by omega)
    have hx_w2_w : w.heap.size < w2.heap.size + 1 + 1 := (by omega)
    have hc_w2_w := fun o => hb_w2.cell (p := ⟨w.heap.size, o, none⟩) (by first | omega | (simp; done) | (simp; omega))
    have hf_w2_w := fun o => hb_w2.frozen (p := ⟨w.heap.size, o, none⟩) (by first | omega | (simp; done) | (simp; omega))
    have hz_w2_wp1 : w.heap.size + 1 < w2.heap.size := (by have hs := hb_w2.size; (try simp at hs); omega)
    have hy_w2_wp1 : w.heap.size + 1 < w2.heap.size + 1 := (by omega)
    have hx_w2_wp1 : w.heap.size + 1 < w2.heap.size + 1 + 1 := (by omega)
    have hc_w2_wp1 := fun o => hb_w2.cell (p := ⟨w.heap.size + 1, o, none⟩) (by first | omega | (simp; done) | (simp; omega))
    have hf_w2_wp1 := fun o => hb_w2.frozen (p := ⟨w.heap.size + 1, o, none⟩) (by first | omega | (simp; done) | (simp; omega))
    go_wp2_with fail
    refine (SB.out _).mono ?_
    rintro e w' ⟨rfl, rfl⟩
    go_wp2_with fail
    refine (drew_bel (CQ.out _)).mono ?_
    rintro e w3 ⟨rfl, hb_w3⟩
    have hs_w3 := hb_w3.size
    (try simp at hs_w3)
    have hz_w3_w : w.heap.size < w3.heap.size := (by have hs := hb_w3.size; (try simp at hs); omega)
    have hy_w3_w : w.heap.size < w3.heap.size + 1 := (by omega)
    have hx_w3_w : w.heap.size < w3.heap.size + 1 + 1 := (by omega)
    have hc_w3_w := fun o => hb_w3.cell (p := ⟨w.heap.size, o, none⟩) (by first | omega | (simp; done) | (simp; omega))
    have hf_w3_w := fun o => hb_w3.frozen (p := ⟨w.heap.size, o, none⟩) (by first | omega | (simp; done) | (simp; omega))
    have hz_w3_wp1 : w.heap.size + 1 < w3.heap.size := (by have hs := hb_w3.size; (try simp at hs); omega)
    have hy_w3_wp1 : w.heap.size + 1 < w3.heap.size + 1 := (by omega)
    have hx_w3_wp1 : w.heap.size + 1 < w3.heap.size + 1 + 1 := (by omega)
    have hc_w3_wp1 := fun o => hb_w3.cell (p := ⟨w.heap.size + 1, o, none⟩) (by first | omega | (simp; done) | (simp; omega))
    have hf_w3_wp1 := fun o => hb_w3.frozen (p := ⟨w.heap.size + 1, o, none⟩) (by first | omega | (simp; done) | (simp; omega))
    have hz_w3_w2 : w2.heap.size < w3.heap.size := (by have hs := hb_w3.size; (try simp at hs); omega)
    have hy_w3_w2 : w2.heap.size < w3.heap.size + 1 := (by omega)
    have hx_w3_w2 : w2.heap.size < w3.heap.size + 1 + 1 := (by omega)
    have hc_w3_w2 := fun o => hb_w3.cell (p := ⟨w2.heap.size, o, none⟩) (by first | omega | (simp; done) | (simp; omega))
    have hf_w3_w2 := fun o => hb_w3.frozen (p := ⟨w2.heap.size, o, none⟩) (by first | omega | (simp; done) | (simp; omega))
    go_wp2_with fail
    refine calm 13 (by kernel_rfl) (by kernel_rfl) fun hG => ?_
    have hg_w := hG (w.heap.size) (by first | omega | (simp; done) | (simp; omega))
    have hg_wp1 := hG (w.heap.size + 1) (by first | omega | (simp; done) | (simp; omega))
    have hg_w2 := hG (w2.heap.size) (by first | omega | (simp; done) | (simp; omega))
    clear hG
    simp only [List.take_succ_cons, List.take_zero, List.drop_succ_cons, List.drop_zero]
    repeat (go_big_quiet_step (first | (go_at_call 110; with_reducible exact calm_same CV.out) | (go_at_call 70; first | with_reducible exact calm_same CE.out | with_reducible exact calm_same CF.out)))
    refine wpQuiet_nil ?_
    intro w4 hb_w4
    clear hg_w hg_wp1 hg_w2
    have hs_w4 := hb_w4.size
    (try simp at hs_w4)
    have hz_w4_w : w.heap.size < w4.heap.size := (by have hs := hb_w4.size; (try simp at hs); omega)
    have hy_w4_w : w.heap.size < w4.heap.size + 1 := (by omega)
    have hx_w4_w : w.heap.size < w4.heap.size + 1 + 1 := (by omega)
    have hc_w4_w := fun o => hb_w4.cell (p := ⟨w.heap.size, o, none⟩) (by first | omega | (simp; done) | (simp; omega))
    have hf_w4_w := fun o => hb_w4.frozen (p := ⟨w.heap.size, o, none⟩) (by first | omega | (simp; done) | (simp; omega))
    have hz_w4_wp1 : w.heap.size + 1 < w4.heap.size := (by have hs := hb_w4.size; (try simp at hs); omega)
    have hy_w4_wp1 : w.heap.size + 1 < w4.heap.size + 1 := (by omega)
    have hx_w4_wp1 : w.heap.size + 1 < w4.heap.size + 1 + 1 := (by omega)
    have hc_w4_wp1 := fun o => hb_w4.cell (p := ⟨w.heap.size + 1, o, none⟩) (by first | omega | (simp; done) | (simp; omega))
    have hf_w4_wp1 := fun o => hb_w4.frozen (p := ⟨w.heap.size + 1, o, none⟩) (by first | omega | (simp; done) | (simp; omega))
    have hz_w4_w2 : w2.heap.size < w4.heap.size := (by have hs := hb_w4.size; (try simp at hs); omega)
    have hy_w4_w2 : w2.heap.size < w4.heap.size + 1 := (by omega)
    have hx_w4_w2 : w2.heap.size < w4.heap.size + 1 + 1 := (by omega)
    have hc_w4_w2 := fun o => hb_w4.cell (p := ⟨w2.heap.size, o, none⟩) (by first | omega | (simp; done) | (simp; omega))
    have hf_w4_w2 := fun o => hb_w4.frozen (p := ⟨w2.heap.size, o, none⟩) (by first | omega | (simp; done) | (simp; omega))
    go_wp2
    refine bodyPost_ret (by simp [results, Try.results109, go_sem, *]; first | done | rfl) rfl ?_
    exact ⟨rfl, (by repeat' (first | (with_reducible exact Below.refl _ _) | (with_reducible assumption) | (with_reducible refine bl_alloc ?_ _) | (with_reducible refine bl_drew ?_) | (with_reducible refine bl_drewN ?_) | (with_reducible refine bl_setCell ?_ ?_ _) | (with_reducible refine bl_call ?_ (by with_reducible assumption)) | omega | (simp; done) | (simp; omega)))⟩
  ·
    go_enter Try.func109, Try.ntmps109
    go_wp2_with fail
    refine (CD.out _).mono ?_
    rintro e w1 ⟨rfl, hb_w1⟩
    have hs_w1 := hb_w1.size
    (try simp at hs_w1)
    have hz_w1_w : w.heap.size < w1.heap.size := (by have hs := hb_w1.size; (try simp at hs); omega)
    have hy_w1_w : w.heap.size < w1.heap.size + 1 := (by omega)
    have hx_w1_w : w.heap.size < w1.heap.size + 1 + 1 := (by omega)
    have hc_w1_w := fun o => hb_w1.cell (p := ⟨w.heap.size, o, none⟩) (by first | omega | (simp; done) | (simp; omega))
    have hf_w1_w := fun o => hb_w1.frozen (p := ⟨w.heap.size, o, none⟩) (by first | omega | (simp; done) | (simp; omega))
    have hz_w1_wp1 : w.heap.size + 1 < w1.heap.size := (by have hs := hb_w1.size; (try simp at hs); omega)
    have hy_w1_wp1 : w.heap.size + 1 < w1.heap.size + 1 := (by omega)
    have hx_w1_wp1 : w.heap.size + 1 < w1.heap.size + 1 + 1 := (by omega)
    have hc_w1_wp1 := fun o => hb_w1.cell (p := ⟨w.heap.size + 1, o, none⟩) (by first | omega | (simp; done) | (simp; omega))
    have hf_w1_wp1 := fun o => hb_w1.frozen (p := ⟨w.heap.size + 1, o, none⟩) (by first | omega | (simp; done) | (simp; omega))
    go_wp2_with fail
    refine (small_any _ _ _ (by omega) (by omega)).mono ?_
    rintro e w' ⟨rfl, rfl⟩
    rw [HS.out]
    go_wp2_with fail
    refine (SA.out _).mono ?_
    rintro e w' ⟨rfl, rfl⟩
    go_wp2_with fail
    refine (CR.out _).mono ?_
    rintro e w' ⟨rfl, rfl⟩
    go_wp2_with fail
    refine (drew_bel (CP.out _)).mono ?_
    rintro e w2 ⟨rfl, hb_w2⟩
    have hs_w2 := hb_w2.size
    (try simp at hs_w2)
    have hz_w2_w : w.heap.size < w2.heap.size := (by have hs := hb_w2.size; (try simp at hs); omega)
    have hy_w2_w : w.heap.size < w2.heap.size + 1 := (by omega)
    have hx_w2_w : w.heap.size < w2.heap.size + 1 + 1 := (by omega)
    have hc_w2_w := fun o => hb_w2.cell (p := ⟨w.heap.size, o, none⟩) (by first | omega | (simp; done) | (simp; omega))
    have hf_w2_w := fun o => hb_w2.frozen (p := ⟨w.heap.size, o, none⟩) (by first | omega | (simp; done) | (simp; omega))
    have hz_w2_wp1 : w.heap.size + 1 < w2.heap.size := (by have hs := hb_w2.size; (try simp at hs); omega)
    have hy_w2_wp1 : w.heap.size + 1 < w2.heap.size + 1 := (by omega)
    have hx_w2_wp1 : w.heap.size + 1 < w2.heap.size + 1 + 1 := (by omega)
    have hc_w2_wp1 := fun o => hb_w2.cell (p := ⟨w.heap.size + 1, o, none⟩) (by first | omega | (simp; done) | (simp; omega))
    have hf_w2_wp1 := fun o => hb_w2.frozen (p := ⟨w.heap.size + 1, o, none⟩) (by first | omega | (simp; done) | (simp; omega))
    go_wp2_with fail
    refine (SB.out _).mono ?_
    rintro e w' ⟨rfl, rfl⟩
    go_wp2_with fail
    refine (drew_bel (CQ.out _)).mono ?_
    rintro e w3 ⟨rfl, hb_w3⟩
    have hs_w3 := hb_w3.size
    (try simp at hs_w3)
    have hz_w3_w : w.heap.size < w3.heap.size := (by have hs := hb_w3.size; (try simp at hs); omega)
    have hy_w3_w : w.heap.size < w3.heap.size + 1 := (by omega)
    have hx_w3_w : w.heap.size < w3.heap.size + 1 + 1 := (by omega)
    have hc_w3_w := fun o => hb_w3.cell (p := ⟨w.heap.size, o, none⟩) (by first | omega | (simp; done) | (simp; omega))
    have hf_w3_w := fun o => hb_w3.frozen (p := ⟨w.heap.size, o, none⟩) (by first | omega | (simp; done) | (simp; omega))
    have hz_w3_wp1 : w.heap.size + 1 < w3.heap.size := (by have hs := hb_w3.size; (try simp at hs); omega)
    have hy_w3_wp1 : w.heap.size + 1 < w3.heap.size + 1 := (by omega)
    have hx_w3_wp1 : w.heap.size + 1 < w3.heap.size + 1 + 1 := (by omega)
    have hc_w3_wp1 := fun o => hb_w3.cell (p := ⟨w.heap.size + 1, o, none⟩) (by first | omega | (simp; done) | (simp; omega))
    have hf_w3_wp1 := fun o => hb_w3.frozen (p := ⟨w.heap.size + 1, o, none⟩) (by first | omega | (simp; done) | (simp; omega))
    have hz_w3_w2 : w2.heap.size < w3.heap.size := (by have hs := hb_w3.size; (try simp at hs); omega)
    have hy_w3_w2 : w2.heap.size < w3.heap.size + 1 := (by omega)
    have hx_w3_w2 : w2.heap.size < w3.heap.size + 1 + 1 := (by omega)
    have hc_w3_w2 := fun o => hb_w3.cell (p := ⟨w2.heap.size, o, none⟩) (by first | omega | (simp; done) | (simp; omega))
    have hf_w3_w2 := fun o => hb_w3.frozen (p := ⟨w2.heap.size, o, none⟩) (by first | omega | (simp; done) | (simp; omega))
    go_wp2_with fail
    refine calm 13 (by kernel_rfl) (by kernel_rfl) fun hG => ?_
    have hg_w := hG (w.heap.size) (by first | omega | (simp; done) | (simp; omega))
    have hg_wp1 := hG (w.heap.size + 1) (by first | omega | (simp; done) | (simp; omega))
    have hg_w2 := hG (w2.heap.size) (by first | omega | (simp; done) | (simp; omega))
    clear hG
    simp only [List.take_succ_cons, List.take_zero, List.drop_succ_cons, List.drop_zero]
    repeat (go_big_quiet_step (first | (go_at_call 110; with_reducible exact calm_same CV.out) | (go_at_call 70; first | with_reducible exact calm_same CE.out | with_reducible exact calm_same CF.out)))
    refine wpQuiet_nil ?_
    intro w4 hb_w4
    clear hg_w hg_wp1 hg_w2
    have hs_w4 := hb_w4.size
    (try simp at hs_w4)
    have hz_w4_w : w.heap.size < w4.heap.size := (by have hs := hb_w4.size; (try simp at hs); omega)
    have hy_w4_w : w.heap.size < w4.heap.size + 1 := (by omega)
    have hx_w4_w : w.heap.size < w4.heap.size + 1 + 1 := (by omega)
    have hc_w4_w := fun o => hb_w4.cell (p := ⟨w.heap.size, o, none⟩) (by first | omega | (simp; done) | (simp; omega))
    have hf_w4_w := fun o => hb_w4.frozen (p := ⟨w.heap.size, o, none⟩) (by first | omega | (simp; done) | (simp; omega))
    have hz_w4_wp1 : w.heap.size + 1 < w4.heap.size := (by have hs := hb_w4.size; (try simp at hs); omega)
    have hy_w4_wp1 : w.heap.size + 1 < w4.heap.size + 1 := (by omega)
    have hx_w4_wp1 : w.heap.size + 1 < w4.heap.size + 1 + 1 := (by omega)
    have hc_w4_wp1 := fun o => hb_w4.cell (p := ⟨w.heap.size + 1, o, none⟩) (by first | omega | (simp; done) | (simp; omega))
    have hf_w4_wp1 := fun o => hb_w4.frozen (p := ⟨w.heap.size + 1, o, none⟩) (by first | omega | (simp; done) | (simp; omega))
    have hz_w4_w2 : w2.heap.size < w4.heap.size := (by have hs := hb_w4.size; (try simp at hs); omega)
    have hy_w4_w2 : w2.heap.size < w4.heap.size + 1 := (by omega)
    have hx_w4_w2 : w2.heap.size < w4.heap.size + 1 + 1 := (by omega)
    have hc_w4_w2 := fun o => hb_w4.cell (p := ⟨w2.heap.size, o, none⟩) (by first | omega | (simp; done) | (simp; omega))
    have hf_w4_w2 := fun o => hb_w4.frozen (p := ⟨w2.heap.size, o, none⟩) (by first | omega | (simp; done) | (simp; omega))
    go_wp2
    refine bodyPost_ret (by simp [results, Try.results109, go_sem, *]; first | done | rfl) rfl ?_
    exact ⟨rfl, (by repeat' (first | (with_reducible exact Below.refl _ _) | (with_reducible assumption) | (with_reducible refine bl_alloc ?_ _) | (with_reducible refine bl_drew ?_) | (with_reducible refine bl_drewN ?_) | (with_reducible refine bl_setCell ?_ ?_ _) | (with_reducible refine bl_call ?_ (by with_reducible assumption)) | omega | (simp; done) | (simp; omega)))⟩
  ·
    go_enter Try.func109, Try.ntmps109
    go_wp2_with fail
    refine (CD.out _).mono ?_
    rintro e w1 ⟨rfl, hb_w1⟩
    have hs_w1 := hb_w1.size
    (try simp at hs_w1)
    have hz_w1_w : w.heap.size < w1.heap.size := (by have hs := hb_w1.size; (try simp at hs); omega)
    have hy_w1_w : w.heap.size < w1.heap.size + 1 := (by omega)
    have hx_w1_w : w.heap.size < w1.heap.size + 1 + 1 := (by omega)
    have hc_w1_w := fun o => hb_w1.cell (p := ⟨w.heap.size, o, none⟩) (by first | omega | (simp; done) | (simp; omega))
    have hf_w1_w := fun o => hb_w1.frozen (p := ⟨w.heap.size, o, none⟩) (by first | omega | (simp; done) | (simp; omega))
    have hz_w1_wp1 : w.heap.size + 1 < w1.heap.size := (by have hs := hb_w1.size; (try simp at hs); omega)
    have hy_w1_wp1 : w.heap.size + 1 < w1.heap.size + 1 := (by omega)
    have hx_w1_wp1 : w.heap.size + 1 < w1.heap.size + 1 + 1 := (by omega)
    have hc_w1_wp1 := fun o => hb_w1.cell (p := ⟨w.heap.size + 1, o, none⟩) (by first | omega | (simp; done) | (simp; omega))
    have hf_w1_wp1 := fun o => hb_w1.frozen (p := ⟨w.heap.size + 1, o, none⟩) (by first | omega | (simp; done) | (simp; omega))
    go_wp2_with fail
    refine (small_any _ _ _ (by omega) (by omega)).mono ?_
    rintro e w' ⟨rfl, rfl⟩
    rw [HS.out]
    go_wp2_with fail
    refine (SA.out _).mono ?_
    rintro e w' ⟨rfl, rfl⟩
    go_wp2_with fail
    refine (CR.out _).mono ?_
    rintro e w' ⟨rfl, rfl⟩
    go_wp2_with fail
    refine (drew_bel (CP.out _)).mono ?_
    rintro e w2 ⟨rfl, hb_w2⟩
    have hs_w2 := hb_w2.size
    (try simp at hs_w2)
    have hz_w2_w : w.heap.size < w2.heap.size := (by have hs := hb_w2.size; (try simp at hs); omega)
    have hy_w2_w : w.heap.size < w2.heap.size + 1 := (by omega)
    have hx_w2_w : w.heap.size < w2.heap.size + 1 + 1 := (by omega)
    have hc_w2_w := fun o => hb_w2.cell (p := ⟨w.heap.size, o, none⟩) (by first | omega | (simp; done) | (simp; omega))
    have hf_w2_w := fun o => hb_w2.frozen (p := ⟨w.heap.size, o, none⟩) (by first | omega | (simp; done) | (simp; omega))
    have hz_w2_wp1 : w.heap.size + 1 < w2.heap.size := (by have hs := hb_w2.size; (try simp at hs); omega)
    have hy_w2_wp1 : w.heap.size + 1 < w2.heap.size + 1 := (by omega)
    have hx_w2_wp1 : w.heap.size + 1 < w2.heap.size + 1 + 1 := (by omega)
    have hc_w2_wp1 := fun o => hb_w2.cell (p := ⟨w.heap.size + 1, o, none⟩) (by first | omega | (simp; done) | (simp; omega))
    have hf_w2_wp1 := fun o => hb_w2.frozen (p := ⟨w.heap.size + 1, o, none⟩) (by first | omega | (simp; done) | (simp; omega))
    go_wp2_with fail
    refine (SB.out _).mono ?_
    rintro e w' ⟨rfl, rfl⟩
    go_wp2_with fail
    refine (drew_bel (CQ.out _)).mono ?_
    rintro e w3 ⟨rfl, hb_w3⟩
    have hs_w3 := hb_w3.size
    (try simp at hs_w3)
    have hz_w3_w : w.heap.size < w3.heap.size := (by have hs := hb_w3.size; (try simp at hs); omega)
    have hy_w3_w : w.heap.size < w3.heap.size + 1 := (by omega)
    have hx_w3_w : w.heap.size < w3.heap.size + 1 + 1 := (by omega)
    have hc_w3_w := fun o => hb_w3.cell (p := ⟨w.heap.size, o, none⟩) (by first | omega | (simp; done) | (simp; omega))
    have hf_w3_w := fun o => hb_w3.frozen (p := ⟨w.heap.size, o, none⟩) (by first | omega | (simp; done) | (simp; omega))
    have hz_w3_wp1 : w.heap.size + 1 < w3.heap.size := (by have hs := hb_w3.size; (try simp at hs); omega)
    have hy_w3_wp1 : w.heap.size + 1 < w3.heap.size + 1 := (by omega)
    have hx_w3_wp1 : w.heap.size + 1 < w3.heap.size + 1 + 1 := (by omega)
    have hc_w3_wp1 := fun o => hb_w3.cell (p := ⟨w.heap.size + 1, o, none⟩) (by first | omega | (simp; done) | (simp; omega))
    have hf_w3_wp1 := fun o => hb_w3.frozen (p := ⟨w.heap.size + 1, o, none⟩) (by first | omega | (simp; done) | (simp; omega))
    have hz_w3_w2 : w2.heap.size < w3.heap.size := (by have hs := hb_w3.size; (try simp at hs); omega)
    have hy_w3_w2 : w2.heap.size < w3.heap.size + 1 := (by omega)
    have hx_w3_w2 : w2.heap.size < w3.heap.size + 1 + 1 := (by omega)
    have hc_w3_w2 := fun o => hb_w3.cell (p := ⟨w2.heap.size, o, none⟩) (by first | omega | (simp; done) | (simp; omega))
    have hf_w3_w2 := fun o => hb_w3.frozen (p := ⟨w2.heap.size, o, none⟩) (by first | omega | (simp; done) | (simp; omega))
    go_wp2_with fail
    have hss := fun (W : World) (v v' : Value) => setCell_twice W w2.heap.size 1 v v'
    rw [hss]
    go_wp2_with fail
    refine calm 13 (by kernel_rfl) (by kernel_rfl) fun hG => ?_
    have hg_w := hG (w.heap.size) (by first | omega | (simp; done) | (simp; omega))
    have hg_wp1 := hG (w.heap.size + 1) (by first | omega | (simp; done) | (simp; omega))
    have hg_w2 := hG (w2.heap.size) (by first | omega | (simp; done) | (simp; omega))
    clear hG
    simp only [List.take_succ_cons, List.take_zero, List.drop_succ_cons, List.drop_zero]
    repeat (go_big_quiet_step (first | (go_at_call 110; with_reducible exact calm_same CV.out) | (go_at_call 70; first | with_reducible exact calm_same CE.out | with_reducible exact calm_same CF.out)))
    refine wpQuiet_nil ?_
    intro w4 hb_w4
    clear hg_w hg_wp1 hg_w2
    have hs_w4 := hb_w4.size
    (try simp at hs_w4)
    have hz_w4_w : w.heap.size < w4.heap.size := (by have hs := hb_w4.size; (try simp at hs); omega)
    have hy_w4_w : w.heap.size < w4.heap.size + 1 := (by omega)
    have hx_w4_w : w.heap.size < w4.heap.size + 1 + 1 := (by omega)
    have hc_w4_w := fun o => hb_w4.cell (p := ⟨w.heap.size, o, none⟩) (by first | omega | (simp; done) | (simp; omega))
    have hf_w4_w := fun o => hb_w4.frozen (p := ⟨w.heap.size, o, none⟩) (by first | omega | (simp; done) | (simp; omega))
    have hz_w4_wp1 : w.heap.size + 1 < w4.heap.size := (by have hs := hb_w4.size; (try simp at hs); omega)
    have hy_w4_wp1 : w.heap.size + 1 < w4.heap.size + 1 := (by omega)
    have hx_w4_wp1 : w.heap.size + 1 < w4.heap.size + 1 + 1 := (by omega)
    have hc_w4_wp1 := fun o => hb_w4.cell (p := ⟨w.heap.size + 1, o, none⟩) (by first | omega | (simp; done) | (simp; omega))
    have hf_w4_wp1 := fun o => hb_w4.frozen (p := ⟨w.heap.size + 1, o, none⟩) (by first | omega | (simp; done) | (simp; omega))
    have hz_w4_w2 : w2.heap.size < w4.heap.size := (by have hs := hb_w4.size; (try simp at hs); omega)
    have hy_w4_w2 : w2.heap.size < w4.heap.size + 1 := (by omega)
    have hx_w4_w2 : w2.heap.size < w4.heap.size + 1 + 1 := (by omega)
    have hc_w4_w2 := fun o => hb_w4.cell (p := ⟨w2.heap.size, o, none⟩) (by first | omega | (simp; done) | (simp; omega))
    have hf_w4_w2 := fun o => hb_w4.frozen (p := ⟨w2.heap.size, o, none⟩) (by first | omega | (simp; done) | (simp; omega))
    go_wp2
    refine bodyPost_ret (by simp [results, Try.results109, go_sem, *]; first | done | rfl) rfl ?_
    exact ⟨rfl, (by repeat' (first | (with_reducible exact Below.refl _ _) | (with_reducible assumption) | (with_reducible refine bl_alloc ?_ _) | (with_reducible refine bl_drew ?_) | (with_reducible refine bl_drewN ?_) | (with_reducible refine bl_setCell ?_ ?_ _) | (with_reducible refine bl_call ?_ (by with_reducible assumption)) | omega | (simp; done) | (simp; omega)))⟩
  ·
    go_enter Try.func109, Try.ntmps109
    go_wp2_with fail
    refine (CD.out _).mono ?_
    rintro e w1 ⟨rfl, hb_w1⟩
    have hs_w1 := hb_w1.size
    (try simp at hs_w1)
    have hz_w1_w : w.heap.size < w1.heap.size := (by have hs := hb_w1.size; (try simp at hs); omega)
    have hy_w1_w : w.heap.size < w1.heap.size + 1 := (by omega)
    have hx_w1_w : w.heap.size < w1.heap.size + 1 + 1 := (by omega)
    have hc_w1_w := fun o => hb_w1.cell (p := ⟨w.heap.size, o, none⟩) (by first | omega | (simp; done) | (simp; omega))
    have hf_w1_w := fun o => hb_w1.frozen (p := ⟨w.heap.size, o, none⟩) (by first | omega | (simp; done) | (simp; omega))
    have hz_w1_wp1 : w.heap.size + 1 < w1.heap.size := (by have hs := hb_w1.size; (try simp at hs); omega)
    have hy_w1_wp1 : w.heap.size + 1 < w1.heap.size + 1 := (by omega)
    have hx_w1_wp1 : w.heap.size + 1 < w1.heap.size + 1 + 1 := (by omega)
    have hc_w1_wp1 := fun o => hb_w1.cell (p := ⟨w.heap.size + 1, o, none⟩) (by first | omega | (simp; done) | (simp; omega))
    have hf_w1_wp1 := fun o => hb_w1.frozen (p := ⟨w.heap.size + 1, o, none⟩) (by first | omega | (simp; done) | (simp; omega))
    go_wp2_with fail
    refine (small_any _ _ _ (by omega) (by omega)).mono ?_
    rintro e w' ⟨rfl, rfl⟩
    rw [HS.out]
    go_wp2_with fail
    refine (SA.out _).mono ?_
    rintro e w' ⟨rfl, rfl⟩
    go_wp2_with fail
    refine (CR.out _).mono ?_
    rintro e w' ⟨rfl, rfl⟩
    go_wp2_with fail
    refine (drew_bel (CP.out _)).mono ?_
    rintro e w2 ⟨rfl, hb_w2⟩
    have hs_w2 := hb_w2.size
    (try simp at hs_w2)
    have hz_w2_w : w.heap.size < w2.heap.size := (by have hs := hb_w2.size; (try simp at hs); omega)
    have hy_w2_w : w.heap.size < w2.heap.size + 1 := (by omega)
    have hx_w2_w : w.heap.size < w2.heap.size + 1 + 1 := (by omega)
    have hc_w2_w := fun o => hb_w2.cell (p := ⟨w.heap.size, o, none⟩) (by first | omega | (simp; done) | (simp; omega))
    have hf_w2_w := fun o => hb_w2.frozen (p := ⟨w.heap.size, o, none⟩) (by first | omega | (simp; done) | (simp; omega))
    have hz_w2_wp1 : w.heap.size + 1 < w2.heap.size := (by have hs := hb_w2.size; (try simp at hs); omega)
    have hy_w2_wp1 : w.heap.size + 1 < w2.heap.size + 1 := (by omega)
    have hx_w2_wp1 : w.heap.size + 1 < w2.heap.size + 1 + 1 := (by omega)
    have hc_w2_wp1 := fun o => hb_w2.cell (p := ⟨w.heap.size + 1, o, none⟩) (by first | omega | (simp; done) | (simp; omega))
    have hf_w2_wp1 := fun o => hb_w2.frozen (p := ⟨w.heap.size + 1, o, none⟩) (by first | omega | (simp; done) | (simp; omega))
    go_wp2_with fail
    refine (SB.out _).mono ?_
    rintro e w' ⟨rfl, rfl⟩
    go_wp2_with fail
    refine (drew_bel (CQ.out _)).mono ?_
    rintro e w3 ⟨rfl, hb_w3⟩
    have hs_w3 := hb_w3.size
    (try simp at hs_w3)
    have hz_w3_w : w.heap.size < w3.heap.size := (by have hs := hb_w3.size; (try simp at hs); omega)
    have hy_w3_w : w.heap.size < w3.heap.size + 1 := (by omega)
    have hx_w3_w : w.heap.size < w3.heap.size + 1 + 1 := (by omega)
    have hc_w3_w := fun o => hb_w3.cell (p := ⟨w.heap.size, o, none⟩) (by first | omega | (simp; done) | (simp; omega))
    have hf_w3_w := fun o => hb_w3.frozen (p := ⟨w.heap.size, o, none⟩) (by first | omega | (simp; done) | (simp; omega))
    have hz_w3_wp1 : w.heap.size + 1 < w3.heap.size := (by have hs := hb_w3.size; (try simp at hs); omega)
    have hy_w3_wp1 : w.heap.size + 1 < w3.heap.size + 1 := (by omega)
    have hx_w3_wp1 : w.heap.size + 1 < w3.heap.size + 1 + 1 := (by omega)
    have hc_w3_wp1 := fun o => hb_w3.cell (p := ⟨w.heap.size + 1, o, none⟩) (by first | omega | (simp; done) | (simp; omega))
    have hf_w3_wp1 := fun o => hb_w3.frozen (p := ⟨w.heap.size + 1, o, none⟩) (by first | omega | (simp; done) | (simp; omega))
    have hz_w3_w2 : w2.heap.size < w3.heap.size := (by have hs := hb_w3.size; (try simp at hs); omega)
    have hy_w3_w2 : w2.heap.size < w3.heap.size + 1 := (by omega)
    have hx_w3_w2 : w2.heap.size < w3.heap.size + 1 + 1 := (by omega)
    have hc_w3_w2 := fun o => hb_w3.cell (p := ⟨w2.heap.size, o, none⟩) (by first | omega | (simp; done) | (simp; omega))
    have hf_w3_w2 := fun o => hb_w3.frozen (p := ⟨w2.heap.size, o, none⟩) (by first | omega | (simp; done) | (simp; omega))
    go_wp2_with fail
    have hss := fun (W : World) (v v' : Value) => setCell_twice W w2.heap.size 1 v v'
    rw [hss]
    go_wp2_with fail
    refine calm 13 (by kernel_rfl) (by kernel_rfl) fun hG => ?_
    have hg_w := hG (w.heap.size) (by first | omega | (simp; done) | (simp; omega))
    have hg_wp1 := hG (w.heap.size + 1) (by first | omega | (simp; done) | (simp; omega))
    have hg_w2 := hG (w2.heap.size) (by first | omega | (simp; done) | (simp; omega))
    clear hG
    simp only [List.take_succ_cons, List.take_zero, List.drop_succ_cons, List.drop_zero]
    repeat (go_big_quiet_step (first | (go_at_call 110; with_reducible exact calm_same CV.out) | (go_at_call 70; first | with_reducible exact calm_same CE.out | with_reducible exact calm_same CF.out)))
    refine wpQuiet_nil ?_
    intro w4 hb_w4
    clear hg_w hg_wp1 hg_w2
    have hs_w4 := hb_w4.size
    (try simp at hs_w4)
    have hz_w4_w : w.heap.size < w4.heap.size := (by have hs := hb_w4.size; (try simp at hs); omega)
    have hy_w4_w : w.heap.size < w4.heap.size + 1 := (by omega)
    have hx_w4_w : w.heap.size < w4.heap.size + 1 + 1 := (by omega)
    have hc_w4_w := fun o => hb_w4.cell (p := ⟨w.heap.size, o, none⟩) (by first | omega | (simp; done) | (simp; omega))
    have hf_w4_w := fun o => hb_w4.frozen (p := ⟨w.heap.size, o, none⟩) (by first | omega | (simp; done) | (simp; omega))
    have hz_w4_wp1 : w.heap.size + 1 < w4.heap.size := (by have hs := hb_w4.size; (try simp at hs); omega)
    have hy_w4_wp1 : w.heap.size + 1 < w4.heap.size + 1 := (by omega)
    have hx_w4_wp1 : w.heap.size + 1 < w4.heap.size + 1 + 1 := (by omega)
    have hc_w4_wp1 := fun o => hb_w4.cell (p := ⟨w.heap.size + 1, o, none⟩) (by first | omega | (simp; done) | (simp; omega))
    have hf_w4_wp1 := fun o => hb_w4.frozen (p := ⟨w.heap.size + 1, o, none⟩) (by first | omega | (simp; done) | (simp; omega))
    have hz_w4_w2 : w2.heap.size < w4.heap.size := (by have hs := hb_w4.size; (try simp at hs); omega)
    have hy_w4_w2 : w2.heap.size < w4.heap.size + 1 := (by omega)
    have hx_w4_w2 : w2.heap.size < w4.heap.size + 1 + 1 := (by omega)
    have hc_w4_w2 := fun o => hb_w4.cell (p := ⟨w2.heap.size, o, none⟩) (by first | omega | (simp; done) | (simp; omega))
    have hf_w4_w2 := fun o => hb_w4.frozen (p := ⟨w2.heap.size, o, none⟩) (by first | omega | (simp; done) | (simp; omega))
    go_wp2
    refine bodyPost_ret (by simp [results, Try.results109, go_sem, *]; first | done | rfl) rfl ?_
    exact ⟨rfl, (by repeat' (first | (with_reducible exact Below.refl _ _) | (with_reducible assumption) | (with_reducible refine bl_alloc ?_ _) | (with_reducible refine bl_drew ?_) | (with_reducible refine bl_drewN ?_) | (with_reducible refine bl_setCell ?_ ?_ _) | (with_reducible refine bl_call ?_ (by with_reducible assumption)) | omega | (simp; done) | (simp; omega)))⟩
end Go.Proofs.Ytjgmjnjpgdadhaa
