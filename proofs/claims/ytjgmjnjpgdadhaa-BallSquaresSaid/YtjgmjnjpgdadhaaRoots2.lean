/- The walks of the root of a ball: of the reference; the result of both. -/
import Derived.Test.YtjgmjnjpgdadhaaRoots
import Derived.Test.YtjgmjnjpgdadhaaQuo3
namespace Go.Proofs.Ytjgmjnjpgdadhaa
open Go.RowKit

set_option maxHeartbeats 1000000 in
theorem bSize_any (n : Int) (w : World) (h1 : -9223372036854775807 ≤ n) (h2 : n ≤ 9223372036854775807) :
    Calls Try.prog 113 #[.int .i64 n] w fun e w' => e = .returned (.int .i64 (n.natAbs : Nat)) ∧ w' = w := by
  by_cases h : 0 ≤ n
  all_goals
    go_enter Try.func113, Try.ntmps113
    go_wp2
    go_ret
    exact ⟨ret_int (by omega), rfl⟩

set_option maxHeartbeats 2000000 in
theorem rRoot_zero (a b r m : Int) (w : World) (h : m ≤ r)
    (cd : ∀ w, Calls Try.prog 86 #[.agg #[.int .i64 a, .int .i64 b, .int .i64 r]] w fun e w' => e = .returned (.int .i64 m) ∧ Below w.heap.size w w') :
    Calls Try.prog 50 #[.agg #[.int .i64 a, .int .i64 b, .int .i64 r]] w fun e w' => e = .returned (.tuple #[.agg #[.int .i64 0, .int .i64 0, .int .i64 0], .int .i64 9]) ∧ Below w.heap.size w w' := by
  have CD := Lib.hid cd
  clear cd
  go_enter Try.func50, Try.ntmps50
  go_wp2_with fail
  refine (CD.out _).mono ?_
  rintro e w1 ⟨rfl, hb_w1⟩
  have hs_w1 := hb_w1.size
  (try simp at hs_w1)
  have hz_w1_w : w.heap.size < w1.heap.size := (by have hs := hb_w1.size; (try simp at hs); omega)
  have hy_w1_w : w.heap.size < w1.heap.size + 1 := (by omega)
  have hx_w1_w : w.heap.size < w1.heap.size + 1 + 1 := (by omega)
  have hc_w1_w := fun o => hb_w1.cell (p := ⟨w.heap.size, o, none⟩) (by first | omega | (simp; done) | (simp; omega))
  have hf_w1_w := fun o => hb_w1.frozen (p := ⟨w.heap.size, o, none⟩) (by first | omega | (simp; done) | (simp; omega))
  have hz_w1_wp1 : w.heap.size + 1 < w1.heap.size := (by have hs := hb_w1.size; (try simp at hs); omega)
  have hy_w1_wp1 : w.heap.size + 1 < w1.heap.size + 1 := (by omega)
  have hx_w1_wp1 : w.heap.size + 1 < w1.heap.size + 1 + 1 := (by omega)
  have hc_w1_wp1 := fun o => hb_w1.cell (p := ⟨w.heap.size + 1, o, none⟩) (by first | omega | (simp; done) | (simp; omega))
  have hf_w1_wp1 := fun o => hb_w1.frozen (p := ⟨w.heap.size + 1, o, none⟩) (by first | omega | (simp; done) | (simp; omega))
  go_wp2
  refine bodyPost_ret (by simp [results, Try.results50, go_sem, *]; first | done | rfl) rfl ?_
  exact ⟨rfl, (by repeat' (first | (with_reducible exact Below.refl _ _) | (with_reducible assumption) | (with_reducible refine bl_alloc ?_ _) | (with_reducible refine bl_drew ?_) | (with_reducible refine bl_drewN ?_) | (with_reducible refine bl_setCell ?_ ?_ _) | (with_reducible refine bl_call ?_ (by with_reducible assumption)) | omega | (simp; done) | (simp; omega)))⟩

set_option maxHeartbeats 2000000 in
theorem rRoot_clash (a b r m : Int) (w : World) (h : r < m) (ha : a < 0) (hb : -r ≤ b ∧ b ≤ r) (r1 : r ≤ 67108864) (hr : r ≠ 0)
    (cd : ∀ w, Calls Try.prog 86 #[.agg #[.int .i64 a, .int .i64 b, .int .i64 r]] w fun e w' => e = .returned (.int .i64 m) ∧ Below w.heap.size w w') :
    Calls Try.prog 50 #[.agg #[.int .i64 a, .int .i64 b, .int .i64 r]] w fun e w' => e = .returned (.tuple #[.agg #[.int .i64 0, .int .i64 0, .int .i64 0], .int .i64 14]) ∧ Below w.heap.size w w' := by
  have CD := Lib.hid cd
  clear cd
  have hr' : (r != 0) = true := by simpa using hr
  obtain ⟨n, hn⟩ : ∃ n : Int, ((b.natAbs : Nat) : Int) = n := ⟨_, rfl⟩
  have SB := Lib.hid (fun w => bSize_any b w (by omega) (by omega))
  rw [hn] at SB
  have hn1 : n ≤ r := by omega
  clear hr hn
  go_enter Try.func50, Try.ntmps50
  go_wp2_with fail
  refine (CD.out _).mono ?_
  rintro e w1 ⟨rfl, hb_w1⟩
  have hs_w1 := hb_w1.size
  (try simp at hs_w1)
  have hz_w1_w : w.heap.size < w1.heap.size := (by have hs := hb_w1.size; (try simp at hs); omega)
  have hy_w1_w : w.heap.size < w1.heap.size + 1 := (by omega)
  have hx_w1_w : w.heap.size < w1.heap.size + 1 + 1 := (by omega)
  have hc_w1_w := fun o => hb_w1.cell (p := ⟨w.heap.size, o, none⟩) (by first | omega | (simp; done) | (simp; omega))
  have hf_w1_w := fun o => hb_w1.frozen (p := ⟨w.heap.size, o, none⟩) (by first | omega | (simp; done) | (simp; omega))
  have hz_w1_wp1 : w.heap.size + 1 < w1.heap.size := (by have hs := hb_w1.size; (try simp at hs); omega)
  have hy_w1_wp1 : w.heap.size + 1 < w1.heap.size + 1 := (by omega)
  have hx_w1_wp1 : w.heap.size + 1 < w1.heap.size + 1 + 1 := (by omega)
  have hc_w1_wp1 := fun o => hb_w1.cell (p := ⟨w.heap.size + 1, o, none⟩) (by first | omega | (simp; done) | (simp; omega))
  have hf_w1_wp1 := fun o => hb_w1.frozen (p := ⟨w.heap.size + 1, o, none⟩) (by first | omega | (simp; done) | (simp; omega))
  go_wp2_with fail
  refine calm_all (by kernel_rfl) (by kernel_rfl) fun hG => ?_
  have hg_w := hG (w.heap.size) (by first | omega | (simp; done) | (simp; omega))
  have hg_wp1 := hG (w.heap.size + 1) (by first | omega | (simp; done) | (simp; omega))
  clear hG
  repeat (go_big_quiet_step (first | (go_at_call 113; with_reducible exact calm_same SB.out)))
  refine wpQuiet_nil ?_
  intro w2 hb_w2
  clear hg_w hg_wp1
  have hs_w2 := hb_w2.size
  (try simp at hs_w2)
  have hz_w2_w : w.heap.size < w2.heap.size := (by have hs := hb_w2.size; (try simp at hs); omega)
  have hy_w2_w : w.heap.size < w2.heap.size + 1 := (by omega)
  have hx_w2_w : w.heap.size < w2.heap.size + 1 + 1 := (by omega)
  have hc_w2_w := fun o => hb_w2.cell (p := ⟨w.heap.size, o, none⟩) (by first | omega | (simp; done) | (simp; omega))
  have hf_w2_w := fun o => hb_w2.frozen (p := ⟨w.heap.size, o, none⟩) (by first | omega | (simp; done) | (simp; omega))
  have hz_w2_wp1 : w.heap.size + 1 < w2.heap.size := (by have hs := hb_w2.size; (try simp at hs); omega)
  have hy_w2_wp1 : w.heap.size + 1 < w2.heap.size + 1 := (by omega)
  have hx_w2_wp1 : w.heap.size + 1 < w2.heap.size + 1 + 1 := (by omega)
  have hc_w2_wp1 := fun o => hb_w2.cell (p := ⟨w.heap.size + 1, o, none⟩) (by first | omega | (simp; done) | (simp; omega))
  have hf_w2_wp1 := fun o => hb_w2.frozen (p := ⟨w.heap.size + 1, o, none⟩) (by first | omega | (simp; done) | (simp; omega))
  go_wp2
  refine bodyPost_ret (by simp [results, Try.results50, go_sem, *]; first | done | rfl) rfl ?_
  exact ⟨rfl, (by repeat' (first | (with_reducible exact Below.refl _ _) | (with_reducible assumption) | (with_reducible refine bl_alloc ?_ _) | (with_reducible refine bl_drew ?_) | (with_reducible refine bl_drewN ?_) | (with_reducible refine bl_setCell ?_ ?_ _) | (with_reducible refine bl_call ?_ (by with_reducible assumption)) | omega | (simp; done) | (simp; omega)))⟩

set_option maxHeartbeats 4000000 in
theorem rRoot_pos (a b r m w0 Q V : Int) (q : Bool) (W2 : Nat) (res : Res) (w : World) (N : RootNums a b r m w0 Q V W2) (h : r < m) (ha : 0 ≤ a)
    (cd : ∀ w, Calls Try.prog 86 #[.agg #[.int .i64 a, .int .i64 b, .int .i64 r]] w fun e w' => e = .returned (.int .i64 m) ∧ Below w.heap.size w w')
    (cr : ∀ w, Calls Try.prog 114 #[.int .i64 ((m + a) * 524288)] w fun e w' => e = .returned (.int .i64 w0) ∧ w' = w)
    (cq : ∀ w, Calls Try.prog 87 #[.int .i64 b, .int .i64 (2 * w0)] w fun e w' => e = .returned (.tuple #[.int .i64 Q, .bool q]) ∧ w' = w)
    (cv : ∀ w, Calls Try.prog 114 #[.int .i64 (m * 1048576)] w fun e w' => e = .returned (.int .i64 V) ∧ w' = w)
    (ck : ∀ w, Calls Try.prog 77 #[.agg #[.int .i64 w0, .int .i64 Q, .int .i64 (-(-(r * 1048576) / V) + 3 + -(-1048576 / w0))]] w fun e w' => e = .returned (outR res) ∧ Below w.heap.size w w') :
    Calls Try.prog 50 #[.agg #[.int .i64 a, .int .i64 b, .int .i64 r]] w fun e w' => e = .returned (outR res) ∧ Below w.heap.size w w' := by
  obtain ⟨m0, m1, w1, w2, eW, V1, V2, a1, b1, r0, r1⟩ := N
  rw [outR_quad] at ck ⊢
  have CE := Lib.hid (fun w => bCeil_any (r * 1048576) V w (by omega) (by omega) (by omega) (by omega))
  have CF := Lib.hid (fun w => bCeil_any 1048576 w0 w (by omega) (by omega) (by omega) (by omega))
  have B1 : -70368744177664 ≤ -(-(r * 1048576) / V) ∧ -(-(r * 1048576) / V) ≤ 70368744177664 := by
    have := ediv_lo (n := -(r * 1048576)) (lo := -70368744177664) V1 (by omega) (by omega)
    have := ediv_hi (n := -(r * 1048576)) (hi := 70368744177664) V1 (by omega) (by omega)
    omega
  have B2 : -1048576 ≤ -(-1048576 / w0) ∧ -(-1048576 / w0) ≤ 1048576 := by
    have := ediv_lo (n := -1048576) (lo := -1048576) w1 (by omega) (by omega)
    have := ediv_hi (n := -1048576) (hi := 1048576) w1 (by omega) (by omega)
    omega
  generalize -(-(r * 1048576) / V) = E at *
  generalize -(-1048576 / w0) = F at *
  have CD := Lib.hid cd
  have CR := Lib.hid cr
  have CQ := Lib.hid cq
  have CV := Lib.hid cv
  have CK := Lib.hid ck
  clear cd cr cq cv ck eW
  have e1 : IntKind.i64.wrap (r * 1048576) = r * 1048576 := IntWalk.i64_in _ (by omega)
  have e2 : IntKind.i64.wrap (m * 1048576) = m * 1048576 := IntWalk.i64_in _ (by omega)
  have d1 : decide (a < 0) = false := decide_eq_false (by omega)
  go_enter Try.func50, Try.ntmps50
  go_wp2_with fail
  refine (CD.out _).mono ?_
  rintro e w1 ⟨rfl, hb_w1⟩
  have hs_w1 := hb_w1.size
  (try simp at hs_w1)
  have hz_w1_w : w.heap.size < w1.heap.size := (by have hs := hb_w1.size; (try simp at hs); omega)
  have hy_w1_w : w.heap.size < w1.heap.size + 1 := (by omega)
  have hx_w1_w : w.heap.size < w1.heap.size + 1 + 1 := (by omega)
  have hc_w1_w := fun o => hb_w1.cell (p := ⟨w.heap.size, o, none⟩) (by first | omega | (simp; done) | (simp; omega))
  have hf_w1_w := fun o => hb_w1.frozen (p := ⟨w.heap.size, o, none⟩) (by first | omega | (simp; done) | (simp; omega))
  have hz_w1_wp1 : w.heap.size + 1 < w1.heap.size := (by have hs := hb_w1.size; (try simp at hs); omega)
  have hy_w1_wp1 : w.heap.size + 1 < w1.heap.size + 1 := (by omega)
  have hx_w1_wp1 : w.heap.size + 1 < w1.heap.size + 1 + 1 := (by omega)
  have hc_w1_wp1 := fun o => hb_w1.cell (p := ⟨w.heap.size + 1, o, none⟩) (by first | omega | (simp; done) | (simp; omega))
  have hf_w1_wp1 := fun o => hb_w1.frozen (p := ⟨w.heap.size + 1, o, none⟩) (by first | omega | (simp; done) | (simp; omega))
  go_wp2_with fail
  refine calm_all (by kernel_rfl) (by kernel_rfl) fun hG => ?_
  have hg_w := hG (w.heap.size) (by first | omega | (simp; done) | (simp; omega))
  have hg_wp1 := hG (w.heap.size + 1) (by first | omega | (simp; done) | (simp; omega))
  clear hG
  repeat (go_big_quiet_step (first | fail))
  refine wpQuiet_nil ?_
  intro w2 hb_w2
  clear hg_w hg_wp1
  have hs_w2 := hb_w2.size
  (try simp at hs_w2)
  have hz_w2_w : w.heap.size < w2.heap.size := (by have hs := hb_w2.size; (try simp at hs); omega)
  have hy_w2_w : w.heap.size < w2.heap.size + 1 := (by omega)
  have hx_w2_w : w.heap.size < w2.heap.size + 1 + 1 := (by omega)
  have hc_w2_w := fun o => hb_w2.cell (p := ⟨w.heap.size, o, none⟩) (by first | omega | (simp; done) | (simp; omega))
  have hf_w2_w := fun o => hb_w2.frozen (p := ⟨w.heap.size, o, none⟩) (by first | omega | (simp; done) | (simp; omega))
  have hz_w2_wp1 : w.heap.size + 1 < w2.heap.size := (by have hs := hb_w2.size; (try simp at hs); omega)
  have hy_w2_wp1 : w.heap.size + 1 < w2.heap.size + 1 := (by omega)
  have hx_w2_wp1 : w.heap.size + 1 < w2.heap.size + 1 + 1 := (by omega)
  have hc_w2_wp1 := fun o => hb_w2.cell (p := ⟨w.heap.size + 1, o, none⟩) (by first | omega | (simp; done) | (simp; omega))
  have hf_w2_wp1 := fun o => hb_w2.frozen (p := ⟨w.heap.size + 1, o, none⟩) (by first | omega | (simp; done) | (simp; omega))
  go_wp2_with fail
  refine (CR.out _).mono ?_
  rintro e w' ⟨rfl, rfl⟩
  go_wp2_with fail
  refine (CQ.out _).mono ?_
  rintro e w' ⟨rfl, rfl⟩
  go_wp2_with fail
  refine calm 12 (by kernel_rfl) (by kernel_rfl) fun hG => ?_
  have hg_w := hG (w.heap.size) (by first | omega | (simp; done) | (simp; omega))
  have hg_wp1 := hG (w.heap.size + 1) (by first | omega | (simp; done) | (simp; omega))
  have hg_w2 := hG (w2.heap.size) (by first | omega | (simp; done) | (simp; omega))
  clear hG
  simp only [List.take_succ_cons, List.take_zero, List.drop_succ_cons, List.drop_zero]
  repeat (go_big_quiet_step (first | (go_at_call 114; with_reducible exact calm_same CV.out) | (go_at_call 74; first | with_reducible exact calm_same CE.out | with_reducible exact calm_same CF.out)))
  refine wpQuiet_nil ?_
  intro w3 hb_w3
  clear hg_w hg_wp1 hg_w2
  have hs_w3 := hb_w3.size
  (try simp at hs_w3)
  have hz_w3_w : w.heap.size < w3.heap.size := (by have hs := hb_w3.size; (try simp at hs); omega)
  have hy_w3_w : w.heap.size < w3.heap.size + 1 := (by omega)
  have hx_w3_w : w.heap.size < w3.heap.size + 1 + 1 := (by omega)
  have hc_w3_w := fun o => hb_w3.cell (p := ⟨w.heap.size, o, none⟩) (by first | omega | (simp; done) | (simp; omega))
  have hf_w3_w := fun o => hb_w3.frozen (p := ⟨w.heap.size, o, none⟩) (by first | omega | (simp; done) | (simp; omega))
  have hz_w3_wp1 : w.heap.size + 1 < w3.heap.size := (by have hs := hb_w3.size; (try simp at hs); omega)
  have hy_w3_wp1 : w.heap.size + 1 < w3.heap.size + 1 := (by omega)
  have hx_w3_wp1 : w.heap.size + 1 < w3.heap.size + 1 + 1 := (by omega)
  have hc_w3_wp1 := fun o => hb_w3.cell (p := ⟨w.heap.size + 1, o, none⟩) (by first | omega | (simp; done) | (simp; omega))
  have hf_w3_wp1 := fun o => hb_w3.frozen (p := ⟨w.heap.size + 1, o, none⟩) (by first | omega | (simp; done) | (simp; omega))
  have hz_w3_w2 : w2.heap.size < w3.heap.size := (by have hs := hb_w3.size; (try simp at hs); omega)
  have hy_w3_w2 : w2.heap.size < w3.heap.size + 1 := (by omega)
  have hx_w3_w2 : w2.heap.size < w3.heap.size + 1 + 1 := (by omega)
  have hc_w3_w2 := fun o => hb_w3.cell (p := ⟨w2.heap.size, o, none⟩) (by first | omega | (simp; done) | (simp; omega))
  have hf_w3_w2 := fun o => hb_w3.frozen (p := ⟨w2.heap.size, o, none⟩) (by first | omega | (simp; done) | (simp; omega))
  go_wp2_with fail
  refine (CK.out _).mono ?_
  rintro e w4 ⟨rfl, hb_w4⟩
  have hs_w4 := hb_w4.size
  (try simp at hs_w4)
  have hz_w4_wp1 : w.heap.size + 1 < w4.heap.size := (by have hs := hb_w4.size; (try simp at hs); omega)
  have hy_w4_wp1 : w.heap.size + 1 < w4.heap.size + 1 := (by omega)
  have hx_w4_wp1 : w.heap.size + 1 < w4.heap.size + 1 + 1 := (by omega)
  have hc_w4_wp1 := fun o => hb_w4.cell (p := ⟨w.heap.size + 1, o, none⟩) (by first | omega | (simp; done) | (simp; omega))
  have hf_w4_wp1 := fun o => hb_w4.frozen (p := ⟨w.heap.size + 1, o, none⟩) (by first | omega | (simp; done) | (simp; omega))
  go_wp2
  refine bodyPost_ret (by simp [results, Try.results50, go_sem, *]; first | done | rfl) rfl ?_
  exact ⟨rfl, (by repeat' (first | (with_reducible exact Below.refl _ _) | (with_reducible assumption) | (with_reducible refine bl_alloc ?_ _) | (with_reducible refine bl_drew ?_) | (with_reducible refine bl_drewN ?_) | (with_reducible refine bl_setCell ?_ ?_ _) | (with_reducible refine bl_call ?_ (by with_reducible assumption)) | omega | (simp; done) | (simp; omega)))⟩

set_option maxHeartbeats 4000000 in
theorem rRoot_neg (a b r m w0 Q V y0 : Int) (q : Bool) (W2 : Nat) (res : Res) (w : World) (N : RootNums a b r m w0 Q V W2) (h : r < m) (ha : a < 0) (hb : (¬ (-r ≤ b ∧ b ≤ r)) ∨ r = 0) (hy : (0 ≤ b ∧ y0 = w0) ∨ (b < 0 ∧ y0 = -w0))
    (cd : ∀ w, Calls Try.prog 86 #[.agg #[.int .i64 a, .int .i64 b, .int .i64 r]] w fun e w' => e = .returned (.int .i64 m) ∧ Below w.heap.size w w')
    (cr : ∀ w, Calls Try.prog 114 #[.int .i64 ((m - a) * 524288)] w fun e w' => e = .returned (.int .i64 w0) ∧ w' = w)
    (cq : ∀ w, Calls Try.prog 87 #[.int .i64 (b.natAbs : Nat), .int .i64 (2 * w0)] w fun e w' => e = .returned (.tuple #[.int .i64 Q, .bool q]) ∧ w' = w)
    (cv : ∀ w, Calls Try.prog 114 #[.int .i64 (m * 1048576)] w fun e w' => e = .returned (.int .i64 V) ∧ w' = w)
    (ck : ∀ w, Calls Try.prog 77 #[.agg #[.int .i64 Q, .int .i64 y0, .int .i64 (-(-(r * 1048576) / V) + 3 + -(-1048576 / w0))]] w fun e w' => e = .returned (outR res) ∧ Below w.heap.size w w') :
    Calls Try.prog 50 #[.agg #[.int .i64 a, .int .i64 b, .int .i64 r]] w fun e w' => e = .returned (outR res) ∧ Below w.heap.size w w' := by
  obtain ⟨m0, m1, w1, w2, eW, V1, V2, a1, b1, r0, r1⟩ := N
  rw [outR_quad] at ck ⊢
  have CE := Lib.hid (fun w => bCeil_any (r * 1048576) V w (by omega) (by omega) (by omega) (by omega))
  have CF := Lib.hid (fun w => bCeil_any 1048576 w0 w (by omega) (by omega) (by omega) (by omega))
  have B1 : -70368744177664 ≤ -(-(r * 1048576) / V) ∧ -(-(r * 1048576) / V) ≤ 70368744177664 := by
    have := ediv_lo (n := -(r * 1048576)) (lo := -70368744177664) V1 (by omega) (by omega)
    have := ediv_hi (n := -(r * 1048576)) (hi := 70368744177664) V1 (by omega) (by omega)
    omega
  have B2 : -1048576 ≤ -(-1048576 / w0) ∧ -(-1048576 / w0) ≤ 1048576 := by
    have := ediv_lo (n := -1048576) (lo := -1048576) w1 (by omega) (by omega)
    have := ediv_hi (n := -1048576) (hi := 1048576) w1 (by omega) (by omega)
    omega
  generalize -(-(r * 1048576) / V) = E at *
  generalize -(-1048576 / w0) = F at *
  obtain ⟨n, hn⟩ : ∃ n : Int, ((b.natAbs : Nat) : Int) = n := ⟨_, rfl⟩
  have SB := Lib.hid (fun w => bSize_any b w (by omega) (by omega))
  rw [hn] at SB cq
  have nb : 0 ≤ n ∧ n ≤ 67108864 := by omega
  have hsr : r < n ∨ (n ≤ r ∧ (r != 0) = false) := by
    by_cases c : n ≤ r
    · right
      rcases hb with hb | hb
      · omega
      · exact ⟨c, by simpa using hb⟩
    · left; omega
  clear hn hb
  have CD := Lib.hid cd
  have CR := Lib.hid cr
  have CQ := Lib.hid cq
  have CV := Lib.hid cv
  have CK := Lib.hid ck
  clear cd cr cq cv ck eW
  have e1 : IntKind.i64.wrap (r * 1048576) = r * 1048576 := IntWalk.i64_in _ (by omega)
  have e2 : IntKind.i64.wrap (m * 1048576) = m * 1048576 := IntWalk.i64_in _ (by omega)
  rcases hy with ⟨hy, rfl⟩ | ⟨hy, rfl⟩ <;> rcases hsr with hsr | ⟨hsr, hr0⟩
  ·
    have d2 : decide (n ≤ r) = false := decide_eq_false (by omega)
    go_enter Try.func50, Try.ntmps50
    go_wp2_with fail
    refine (CD.out _).mono ?_
    rintro e w1 ⟨rfl, hb_w1⟩
    have hs_w1 := hb_w1.size
    (try simp at hs_w1)
    have hz_w1_w : w.heap.size < w1.heap.size := (by have hs := hb_w1.size; (try simp at hs); omega)
    have hy_w1_w : w.heap.size < w1.heap.size + 1 := (by omega)
    have hx_w1_w : w.heap.size < w1.heap.size + 1 + 1 := (by omega)
    have hc_w1_w := fun o => hb_w1.cell (p := ⟨w.heap.size, o, none⟩) (by first | omega | (simp; done) | (simp; omega))
    have hf_w1_w := fun o => hb_w1.frozen (p := ⟨w.heap.size, o, none⟩) (by first | omega | (simp; done) | (simp; omega))
    have hz_w1_wp1 : w.heap.size + 1 < w1.heap.size := (by have hs := hb_w1.size; (try simp at hs); omega)
    have hy_w1_wp1 : w.heap.size + 1 < w1.heap.size + 1 := (by omega)
    have hx_w1_wp1 : w.heap.size + 1 < w1.heap.size + 1 + 1 := (by omega)
    have hc_w1_wp1 := fun o => hb_w1.cell (p := ⟨w.heap.size + 1, o, none⟩) (by first | omega | (simp; done) | (simp; omega))
    have hf_w1_wp1 := fun o => hb_w1.frozen (p := ⟨w.heap.size + 1, o, none⟩) (by first | omega | (simp; done) | (simp; omega))
    go_wp2_with fail
    refine calm_all (by kernel_rfl) (by kernel_rfl) fun hG => ?_
    have hg_w := hG (w.heap.size) (by first | omega | (simp; done) | (simp; omega))
    have hg_wp1 := hG (w.heap.size + 1) (by first | omega | (simp; done) | (simp; omega))
    clear hG
    repeat (go_big_quiet_step (first | (go_at_call 113; with_reducible exact calm_same SB.out)))
    refine wpQuiet_nil ?_
    intro w2 hb_w2
    clear hg_w hg_wp1
    have hs_w2 := hb_w2.size
    (try simp at hs_w2)
    have hz_w2_w : w.heap.size < w2.heap.size := (by have hs := hb_w2.size; (try simp at hs); omega)
    have hy_w2_w : w.heap.size < w2.heap.size + 1 := (by omega)
    have hx_w2_w : w.heap.size < w2.heap.size + 1 + 1 := (by omega)
    have hc_w2_w := fun o => hb_w2.cell (p := ⟨w.heap.size, o, none⟩) (by first | omega | (simp; done) | (simp; omega))
    have hf_w2_w := fun o => hb_w2.frozen (p := ⟨w.heap.size, o, none⟩) (by first | omega | (simp; done) | (simp; omega))
    have hz_w2_wp1 : w.heap.size + 1 < w2.heap.size := (by have hs := hb_w2.size; (try simp at hs); omega)
    have hy_w2_wp1 : w.heap.size + 1 < w2.heap.size + 1 := (by omega)
    have hx_w2_wp1 : w.heap.size + 1 < w2.heap.size + 1 + 1 := (by omega)
    have hc_w2_wp1 := fun o => hb_w2.cell (p := ⟨w.heap.size + 1, o, none⟩) (by first | omega | (simp; done) | (simp; omega))
    have hf_w2_wp1 := fun o => hb_w2.frozen (p := ⟨w.heap.size + 1, o, none⟩) (by first | omega | (simp; done) | (simp; omega))
    go_wp2_with fail
    refine (CR.out _).mono ?_
    rintro e w' ⟨rfl, rfl⟩
    go_wp2_with fail
    refine (SB.out _).mono ?_
    rintro e w' ⟨rfl, rfl⟩
    go_wp2_with fail
    refine (CQ.out _).mono ?_
    rintro e w' ⟨rfl, rfl⟩
    go_wp2_with fail
    refine calm 12 (by kernel_rfl) (by kernel_rfl) fun hG => ?_
    have hg_w := hG (w.heap.size) (by first | omega | (simp; done) | (simp; omega))
    have hg_wp1 := hG (w.heap.size + 1) (by first | omega | (simp; done) | (simp; omega))
    have hg_w2 := hG (w2.heap.size) (by first | omega | (simp; done) | (simp; omega))
    clear hG
    simp only [List.take_succ_cons, List.take_zero, List.drop_succ_cons, List.drop_zero]
    repeat (go_big_quiet_step (first | (go_at_call 114; with_reducible exact calm_same CV.out) | (go_at_call 74; first | with_reducible exact calm_same CE.out | with_reducible exact calm_same CF.out)))
    refine wpQuiet_nil ?_
    intro w3 hb_w3
    clear hg_w hg_wp1 hg_w2
    have hs_w3 := hb_w3.size
    (try simp at hs_w3)
    have hz_w3_w : w.heap.size < w3.heap.size := (by have hs := hb_w3.size; (try simp at hs); omega)
    have hy_w3_w : w.heap.size < w3.heap.size + 1 := (by omega)
    have hx_w3_w : w.heap.size < w3.heap.size + 1 + 1 := (by omega)
    have hc_w3_w := fun o => hb_w3.cell (p := ⟨w.heap.size, o, none⟩) (by first | omega | (simp; done) | (simp; omega))
    have hf_w3_w := fun o => hb_w3.frozen (p := ⟨w.heap.size, o, none⟩) (by first | omega | (simp; done) | (simp; omega))
    have hz_w3_wp1 : w.heap.size + 1 < w3.heap.size := (by have hs := hb_w3.size; (try simp at hs); omega)
    have hy_w3_wp1 : w.heap.size + 1 < w3.heap.size + 1 := (by omega)
    have hx_w3_wp1 : w.heap.size + 1 < w3.heap.size + 1 + 1 := (by omega)
    have hc_w3_wp1 := fun o => hb_w3.cell (p := ⟨w.heap.size + 1, o, none⟩) (by first | omega | (simp; done) | (simp; omega))
    have hf_w3_wp1 := fun o => hb_w3.frozen (p := ⟨w.heap.size + 1, o, none⟩) (by first | omega | (simp; done) | (simp; omega))
    have hz_w3_w2 : w2.heap.size < w3.heap.size := (by have hs := hb_w3.size; (try simp at hs); omega)
    have hy_w3_w2 : w2.heap.size < w3.heap.size + 1 := (by omega)
    have hx_w3_w2 : w2.heap.size < w3.heap.size + 1 + 1 := (by omega)
    have hc_w3_w2 := fun o => hb_w3.cell (p := ⟨w2.heap.size, o, none⟩) (by first | omega | (simp; done) | (simp; omega))
    have hf_w3_w2 := fun o => hb_w3.frozen (p := ⟨w2.heap.size, o, none⟩) (by first | omega | (simp; done) | (simp; omega))
    go_wp2_with fail
    refine (CK.out _).mono ?_
    rintro e w4 ⟨rfl, hb_w4⟩
    have hs_w4 := hb_w4.size
    (try simp at hs_w4)
    have hz_w4_wp1 : w.heap.size + 1 < w4.heap.size := (by have hs := hb_w4.size; (try simp at hs); omega)
    have hy_w4_wp1 : w.heap.size + 1 < w4.heap.size + 1 := (by omega)
    have hx_w4_wp1 : w.heap.size + 1 < w4.heap.size + 1 + 1 := (by omega)
    have hc_w4_wp1 := fun o => hb_w4.cell (p := ⟨w.heap.size + 1, o, none⟩) (by first | omega | (simp; done) | (simp; omega))
    have hf_w4_wp1 := fun o => hb_w4.frozen (p := ⟨w.heap.size + 1, o, none⟩) (by first | omega | (simp; done) | (simp; omega))
    go_wp2
    refine bodyPost_ret (by simp [results, Try.results50, go_sem, *]; first | done | rfl) rfl ?_
    exact ⟨rfl, (by repeat' (first | (with_reducible exact Below.refl _ _) | (with_reducible assumption) | (with_reducible refine bl_alloc ?_ _) | (with_reducible refine bl_drew ?_) | (with_reducible refine bl_drewN ?_) | (with_reducible refine bl_setCell ?_ ?_ _) | (with_reducible refine bl_call ?_ (by with_reducible assumption)) | omega | (simp; done) | (simp; omega)))⟩
  ·
    go_enter Try.func50, Try.ntmps50
    go_wp2_with fail
    refine (CD.out _).mono ?_
    rintro e w1 ⟨rfl, hb_w1⟩
    have hs_w1 := hb_w1.size
    (try simp at hs_w1)
    have hz_w1_w : w.heap.size < w1.heap.size := (by have hs := hb_w1.size; (try simp at hs); omega)
    have hy_w1_w : w.heap.size < w1.heap.size + 1 := (by omega)
    have hx_w1_w : w.heap.size < w1.heap.size + 1 + 1 := (by omega)
    have hc_w1_w := fun o => hb_w1.cell (p := ⟨w.heap.size, o, none⟩) (by first | omega | (simp; done) | (simp; omega))
    have hf_w1_w := fun o => hb_w1.frozen (p := ⟨w.heap.size, o, none⟩) (by first | omega | (simp; done) | (simp; omega))
    have hz_w1_wp1 : w.heap.size + 1 < w1.heap.size := (by have hs := hb_w1.size; (try simp at hs); omega)
    have hy_w1_wp1 : w.heap.size + 1 < w1.heap.size + 1 := (by omega)
    have hx_w1_wp1 : w.heap.size + 1 < w1.heap.size + 1 + 1 := (by omega)
    have hc_w1_wp1 := fun o => hb_w1.cell (p := ⟨w.heap.size + 1, o, none⟩) (by first | omega | (simp; done) | (simp; omega))
    have hf_w1_wp1 := fun o => hb_w1.frozen (p := ⟨w.heap.size + 1, o, none⟩) (by first | omega | (simp; done) | (simp; omega))
    go_wp2_with fail
    refine calm_all (by kernel_rfl) (by kernel_rfl) fun hG => ?_
    have hg_w := hG (w.heap.size) (by first | omega | (simp; done) | (simp; omega))
    have hg_wp1 := hG (w.heap.size + 1) (by first | omega | (simp; done) | (simp; omega))
    clear hG
    repeat (go_big_quiet_step (first | (go_at_call 113; with_reducible exact calm_same SB.out)))
    refine wpQuiet_nil ?_
    intro w2 hb_w2
    clear hg_w hg_wp1
    have hs_w2 := hb_w2.size
    (try simp at hs_w2)
    have hz_w2_w : w.heap.size < w2.heap.size := (by have hs := hb_w2.size; (try simp at hs); omega)
    have hy_w2_w : w.heap.size < w2.heap.size + 1 := (by omega)
    have hx_w2_w : w.heap.size < w2.heap.size + 1 + 1 := (by omega)
    have hc_w2_w := fun o => hb_w2.cell (p := ⟨w.heap.size, o, none⟩) (by first | omega | (simp; done) | (simp; omega))
    have hf_w2_w := fun o => hb_w2.frozen (p := ⟨w.heap.size, o, none⟩) (by first | omega | (simp; done) | (simp; omega))
    have hz_w2_wp1 : w.heap.size + 1 < w2.heap.size := (by have hs := hb_w2.size; (try simp at hs); omega)
    have hy_w2_wp1 : w.heap.size + 1 < w2.heap.size + 1 := (by omega)
    have hx_w2_wp1 : w.heap.size + 1 < w2.heap.size + 1 + 1 := (by omega)
    have hc_w2_wp1 := fun o => hb_w2.cell (p := ⟨w.heap.size + 1, o, none⟩) (by first | omega | (simp; done) | (simp; omega))
    have hf_w2_wp1 := fun o => hb_w2.frozen (p := ⟨w.heap.size + 1, o, none⟩) (by first | omega | (simp; done) | (simp; omega))
    go_wp2_with fail
    refine (CR.out _).mono ?_
    rintro e w' ⟨rfl, rfl⟩
    go_wp2_with fail
    refine (SB.out _).mono ?_
    rintro e w' ⟨rfl, rfl⟩
    go_wp2_with fail
    refine (CQ.out _).mono ?_
    rintro e w' ⟨rfl, rfl⟩
    go_wp2_with fail
    refine calm 12 (by kernel_rfl) (by kernel_rfl) fun hG => ?_
    have hg_w := hG (w.heap.size) (by first | omega | (simp; done) | (simp; omega))
    have hg_wp1 := hG (w.heap.size + 1) (by first | omega | (simp; done) | (simp; omega))
    have hg_w2 := hG (w2.heap.size) (by first | omega | (simp; done) | (simp; omega))
    clear hG
    simp only [List.take_succ_cons, List.take_zero, List.drop_succ_cons, List.drop_zero]
    repeat (go_big_quiet_step (first | (go_at_call 114; with_reducible exact calm_same CV.out) | (go_at_call 74; first | with_reducible exact calm_same CE.out | with_reducible exact calm_same CF.out)))
    refine wpQuiet_nil ?_
    intro w3 hb_w3
    clear hg_w hg_wp1 hg_w2
    have hs_w3 := hb_w3.size
    (try simp at hs_w3)
    have hz_w3_w : w.heap.size < w3.heap.size := (by have hs := hb_w3.size; (try simp at hs); omega)
    have hy_w3_w : w.heap.size < w3.heap.size + 1 := (by omega)
    have hx_w3_w : w.heap.size < w3.heap.size + 1 + 1 := (by omega)
    have hc_w3_w := fun o => hb_w3.cell (p := ⟨w.heap.size, o, none⟩) (by first | omega | (simp; done) | (simp; omega))
    have hf_w3_w := fun o => hb_w3.frozen (p := ⟨w.heap.size, o, none⟩) (by first | omega | (simp; done) | (simp; omega))
    have hz_w3_wp1 : w.heap.size + 1 < w3.heap.size := (by have hs := hb_w3.size; (try simp at hs); omega)
    have hy_w3_wp1 : w.heap.size + 1 < w3.heap.size + 1 := (by omega)
    have hx_w3_wp1 : w.heap.size + 1 < w3.heap.size + 1 + 1 := (by omega)
    have hc_w3_wp1 := fun o => hb_w3.cell (p := ⟨w.heap.size + 1, o, none⟩) (by first | omega | (simp; done) | (simp; omega))
    have hf_w3_wp1 := fun o => hb_w3.frozen (p := ⟨w.heap.size + 1, o, none⟩) (by first | omega | (simp; done) | (simp; omega))
    have hz_w3_w2 : w2.heap.size < w3.heap.size := (by have hs := hb_w3.size; (try simp at hs); omega)
    have hy_w3_w2 : w2.heap.size < w3.heap.size + 1 := (by omega)
    have hx_w3_w2 : w2.heap.size < w3.heap.size + 1 + 1 := (by omega)
    have hc_w3_w2 := fun o => hb_w3.cell (p := ⟨w2.heap.size, o, none⟩) (by first | omega | (simp; done) | (simp; omega))
    have hf_w3_w2 := fun o => hb_w3.frozen (p := ⟨w2.heap.size, o, none⟩) (by first | omega | (simp; done) | (simp; omega))
    go_wp2_with fail
    refine (CK.out _).mono ?_
    rintro e w4 ⟨rfl, hb_w4⟩
    have hs_w4 := hb_w4.size
    (try simp at hs_w4)
    have hz_w4_wp1 : w.heap.size + 1 < w4.heap.size := (by have hs := hb_w4.size; (try simp at hs); omega)
    have hy_w4_wp1 : w.heap.size + 1 < w4.heap.size + 1 := (by omega)
    have hx_w4_wp1 : w.heap.size + 1 < w4.heap.size + 1 + 1 := (by omega)
    have hc_w4_wp1 := fun o => hb_w4.cell (p := ⟨w.heap.size + 1, o, none⟩) (by first | omega | (simp; done) | (simp; omega))
    have hf_w4_wp1 := fun o => hb_w4.frozen (p := ⟨w.heap.size + 1, o, none⟩) (by first | omega | (simp; done) | (simp; omega))
    go_wp2
    refine bodyPost_ret (by simp [results, Try.results50, go_sem, *]; first | done | rfl) rfl ?_
    exact ⟨rfl, (by repeat' (first | (with_reducible exact Below.refl _ _) | (with_reducible assumption) | (with_reducible refine bl_alloc ?_ _) | (with_reducible refine bl_drew ?_) | (with_reducible refine bl_drewN ?_) | (with_reducible refine bl_setCell ?_ ?_ _) | (with_reducible refine bl_call ?_ (by with_reducible assumption)) | omega | (simp; done) | (simp; omega)))⟩
  ·
    have d2 : decide (n ≤ r) = false := decide_eq_false (by omega)
    go_enter Try.func50, Try.ntmps50
    go_wp2_with fail
    refine (CD.out _).mono ?_
    rintro e w1 ⟨rfl, hb_w1⟩
    have hs_w1 := hb_w1.size
    (try simp at hs_w1)
    have hz_w1_w : w.heap.size < w1.heap.size := (by have hs := hb_w1.size; (try simp at hs); omega)
    have hy_w1_w : w.heap.size < w1.heap.size + 1 := (by omega)
    have hx_w1_w : w.heap.size < w1.heap.size + 1 + 1 := (by omega)
    have hc_w1_w := fun o => hb_w1.cell (p := ⟨w.heap.size, o, none⟩) (by first | omega | (simp; done) | (simp; omega))
    have hf_w1_w := fun o => hb_w1.frozen (p := ⟨w.heap.size, o, none⟩) (by first | omega | (simp; done) | (simp; omega))
    have hz_w1_wp1 : w.heap.size + 1 < w1.heap.size := (by have hs := hb_w1.size; (try simp at hs); omega)
    have hy_w1_wp1 : w.heap.size + 1 < w1.heap.size + 1 := (by omega)
    have hx_w1_wp1 : w.heap.size + 1 < w1.heap.size + 1 + 1 := (by omega)
    have hc_w1_wp1 := fun o => hb_w1.cell (p := ⟨w.heap.size + 1, o, none⟩) (by first | omega | (simp; done) | (simp; omega))
    have hf_w1_wp1 := fun o => hb_w1.frozen (p := ⟨w.heap.size + 1, o, none⟩) (by first | omega | (simp; done) | (simp; omega))
    go_wp2_with fail
    refine calm_all (by kernel_rfl) (by kernel_rfl) fun hG => ?_
    have hg_w := hG (w.heap.size) (by first | omega | (simp; done) | (simp; omega))
    have hg_wp1 := hG (w.heap.size + 1) (by first | omega | (simp; done) | (simp; omega))
    clear hG
    repeat (go_big_quiet_step (first | (go_at_call 113; with_reducible exact calm_same SB.out)))
    refine wpQuiet_nil ?_
    intro w2 hb_w2
    clear hg_w hg_wp1
    have hs_w2 := hb_w2.size
    (try simp at hs_w2)
    have hz_w2_w : w.heap.size < w2.heap.size := (by have hs := hb_w2.size; (try simp at hs); omega)
    have hy_w2_w : w.heap.size < w2.heap.size + 1 := (by omega)
    have hx_w2_w : w.heap.size < w2.heap.size + 1 + 1 := (by omega)
    have hc_w2_w := fun o => hb_w2.cell (p := ⟨w.heap.size, o, none⟩) (by first | omega | (simp; done) | (simp; omega))
    have hf_w2_w := fun o => hb_w2.frozen (p := ⟨w.heap.size, o, none⟩) (by first | omega | (simp; done) | (simp; omega))
    have hz_w2_wp1 : w.heap.size + 1 < w2.heap.size := (by have hs := hb_w2.size; (try simp at hs); omega)
    have hy_w2_wp1 : w.heap.size + 1 < w2.heap.size + 1 := (by omega)
    have hx_w2_wp1 : w.heap.size + 1 < w2.heap.size + 1 + 1 := (by omega)
    have hc_w2_wp1 := fun o => hb_w2.cell (p := ⟨w.heap.size + 1, o, none⟩) (by first | omega | (simp; done) | (simp; omega))
    have hf_w2_wp1 := fun o => hb_w2.frozen (p := ⟨w.heap.size + 1, o, none⟩) (by first | omega | (simp; done) | (simp; omega))
    go_wp2_with fail
    refine (CR.out _).mono ?_
    rintro e w' ⟨rfl, rfl⟩
    go_wp2_with fail
    refine (SB.out _).mono ?_
    rintro e w' ⟨rfl, rfl⟩
    go_wp2_with fail
    refine (CQ.out _).mono ?_
    rintro e w' ⟨rfl, rfl⟩
    go_wp2_with fail
    refine calm 12 (by kernel_rfl) (by kernel_rfl) fun hG => ?_
    have hg_w := hG (w.heap.size) (by first | omega | (simp; done) | (simp; omega))
    have hg_wp1 := hG (w.heap.size + 1) (by first | omega | (simp; done) | (simp; omega))
    have hg_w2 := hG (w2.heap.size) (by first | omega | (simp; done) | (simp; omega))
    clear hG
    simp only [List.take_succ_cons, List.take_zero, List.drop_succ_cons, List.drop_zero]
    repeat (go_big_quiet_step (first | (go_at_call 114; with_reducible exact calm_same CV.out) | (go_at_call 74; first | with_reducible exact calm_same CE.out | with_reducible exact calm_same CF.out)))
    refine wpQuiet_nil ?_
    intro w3 hb_w3
    clear hg_w hg_wp1 hg_w2
    have hs_w3 := hb_w3.size
    (try simp at hs_w3)
    have hz_w3_w : w.heap.size < w3.heap.size := (by have hs := hb_w3.size; (try simp at hs); omega)
    have hy_w3_w : w.heap.size < w3.heap.size + 1 := (by omega)
    have hx_w3_w : w.heap.size < w3.heap.size + 1 + 1 := (by omega)
    have hc_w3_w := fun o => hb_w3.cell (p := ⟨w.heap.size, o, none⟩) (by first | omega | (simp; done) | (simp; omega))
    have hf_w3_w := fun o => hb_w3.frozen (p := ⟨w.heap.size, o, none⟩) (by first | omega | (simp; done) | (simp; omega))
    have hz_w3_wp1 : w.heap.size + 1 < w3.heap.size := (by have hs := hb_w3.size; (try simp at hs); omega)
    have hy_w3_wp1 : w.heap.size + 1 < w3.heap.size + 1 := (by omega)
    have hx_w3_wp1 : w.heap.size + 1 < w3.heap.size + 1 + 1 := (by omega)
    have hc_w3_wp1 := fun o => hb_w3.cell (p := ⟨w.heap.size + 1, o, none⟩) (by first | omega | (simp; done) | (simp; omega))
    have hf_w3_wp1 := fun o => hb_w3.frozen (p := ⟨w.heap.size + 1, o, none⟩) (by first | omega | (simp; done) | (simp; omega))
    have hz_w3_w2 : w2.heap.size < w3.heap.size := (by have hs := hb_w3.size; (try simp at hs); omega)
    have hy_w3_w2 : w2.heap.size < w3.heap.size + 1 := (by omega)
    have hx_w3_w2 : w2.heap.size < w3.heap.size + 1 + 1 := (by omega)
    have hc_w3_w2 := fun o => hb_w3.cell (p := ⟨w2.heap.size, o, none⟩) (by first | omega | (simp; done) | (simp; omega))
    have hf_w3_w2 := fun o => hb_w3.frozen (p := ⟨w2.heap.size, o, none⟩) (by first | omega | (simp; done) | (simp; omega))
    go_wp2_with fail
    refine (CK.out _).mono ?_
    rintro e w4 ⟨rfl, hb_w4⟩
    have hs_w4 := hb_w4.size
    (try simp at hs_w4)
    have hz_w4_wp1 : w.heap.size + 1 < w4.heap.size := (by have hs := hb_w4.size; (try simp at hs); omega)
    have hy_w4_wp1 : w.heap.size + 1 < w4.heap.size + 1 := (by omega)
    have hx_w4_wp1 : w.heap.size + 1 < w4.heap.size + 1 + 1 := (by omega)
    have hc_w4_wp1 := fun o => hb_w4.cell (p := ⟨w.heap.size + 1, o, none⟩) (by first | omega | (simp; done) | (simp; omega))
    have hf_w4_wp1 := fun o => hb_w4.frozen (p := ⟨w.heap.size + 1, o, none⟩) (by first | omega | (simp; done) | (simp; omega))
    go_wp2
    refine bodyPost_ret (by simp [results, Try.results50, go_sem, *]; first | done | rfl) rfl ?_
    exact ⟨rfl, (by repeat' (first | (with_reducible exact Below.refl _ _) | (with_reducible assumption) | (with_reducible refine bl_alloc ?_ _) | (with_reducible refine bl_drew ?_) | (with_reducible refine bl_drewN ?_) | (with_reducible refine bl_setCell ?_ ?_ _) | (with_reducible refine bl_call ?_ (by with_reducible assumption)) | omega | (simp; done) | (simp; omega)))⟩
  ·
    go_enter Try.func50, Try.ntmps50
    go_wp2_with fail
    refine (CD.out _).mono ?_
    rintro e w1 ⟨rfl, hb_w1⟩
    have hs_w1 := hb_w1.size
    (try simp at hs_w1)
    have hz_w1_w : w.heap.size < w1.heap.size := (by have hs := hb_w1.size; (try simp at hs); omega)
    have hy_w1_w : w.heap.size < w1.heap.size + 1 := (by omega)
    have hx_w1_w : w.heap.size < w1.heap.size + 1 + 1 := (by omega)
    have hc_w1_w := fun o => hb_w1.cell (p := ⟨w.heap.size, o, none⟩) (by first | omega | (simp; done) | (simp; omega))
    have hf_w1_w := fun o => hb_w1.frozen (p := ⟨w.heap.size, o, none⟩) (by first | omega | (simp; done) | (simp; omega))
    have hz_w1_wp1 : w.heap.size + 1 < w1.heap.size := (by have hs := hb_w1.size; (try simp at hs); omega)
    have hy_w1_wp1 : w.heap.size + 1 < w1.heap.size + 1 := (by omega)
    have hx_w1_wp1 : w.heap.size + 1 < w1.heap.size + 1 + 1 := (by omega)
    have hc_w1_wp1 := fun o => hb_w1.cell (p := ⟨w.heap.size + 1, o, none⟩) (by first | omega | (simp; done) | (simp; omega))
    have hf_w1_wp1 := fun o => hb_w1.frozen (p := ⟨w.heap.size + 1, o, none⟩) (by first | omega | (simp; done) | (simp; omega))
    go_wp2_with fail
    refine calm_all (by kernel_rfl) (by kernel_rfl) fun hG => ?_
    have hg_w := hG (w.heap.size) (by first | omega | (simp; done) | (simp; omega))
    have hg_wp1 := hG (w.heap.size + 1) (by first | omega | (simp; done) | (simp; omega))
    clear hG
    repeat (go_big_quiet_step (first | (go_at_call 113; with_reducible exact calm_same SB.out)))
    refine wpQuiet_nil ?_
    intro w2 hb_w2
    clear hg_w hg_wp1
    have hs_w2 := hb_w2.size
    (try simp at hs_w2)
    have hz_w2_w : w.heap.size < w2.heap.size := (by have hs := hb_w2.size; (try simp at hs); omega)
    have hy_w2_w : w.heap.size < w2.heap.size + 1 := (by omega)
    have hx_w2_w : w.heap.size < w2.heap.size + 1 + 1 := (by omega)
    have hc_w2_w := fun o => hb_w2.cell (p := ⟨w.heap.size, o, none⟩) (by first | omega | (simp; done) | (simp; omega))
    have hf_w2_w := fun o => hb_w2.frozen (p := ⟨w.heap.size, o, none⟩) (by first | omega | (simp; done) | (simp; omega))
    have hz_w2_wp1 : w.heap.size + 1 < w2.heap.size := (by have hs := hb_w2.size; (try simp at hs); omega)
    have hy_w2_wp1 : w.heap.size + 1 < w2.heap.size + 1 := (by omega)
    have hx_w2_wp1 : w.heap.size + 1 < w2.heap.size + 1 + 1 := (by omega)
    have hc_w2_wp1 := fun o => hb_w2.cell (p := ⟨w.heap.size + 1, o, none⟩) (by first | omega | (simp; done) | (simp; omega))
    have hf_w2_wp1 := fun o => hb_w2.frozen (p := ⟨w.heap.size + 1, o, none⟩) (by first | omega | (simp; done) | (simp; omega))
    go_wp2_with fail
    refine (CR.out _).mono ?_
    rintro e w' ⟨rfl, rfl⟩
    go_wp2_with fail
    refine (SB.out _).mono ?_
    rintro e w' ⟨rfl, rfl⟩
    go_wp2_with fail
    refine (CQ.out _).mono ?_
    rintro e w' ⟨rfl, rfl⟩
    go_wp2_with fail
    refine calm 12 (by kernel_rfl) (by kernel_rfl) fun hG => ?_
    have hg_w := hG (w.heap.size) (by first | omega | (simp; done) | (simp; omega))
    have hg_wp1 := hG (w.heap.size + 1) (by first | omega | (simp; done) | (simp; omega))
    have hg_w2 := hG (w2.heap.size) (by first | omega | (simp; done) | (simp; omega))
    clear hG
    simp only [List.take_succ_cons, List.take_zero, List.drop_succ_cons, List.drop_zero]
    repeat (go_big_quiet_step (first | (go_at_call 114; with_reducible exact calm_same CV.out) | (go_at_call 74; first | with_reducible exact calm_same CE.out | with_reducible exact calm_same CF.out)))
    refine wpQuiet_nil ?_
    intro w3 hb_w3
    clear hg_w hg_wp1 hg_w2
    have hs_w3 := hb_w3.size
    (try simp at hs_w3)
    have hz_w3_w : w.heap.size < w3.heap.size := (by have hs := hb_w3.size; (try simp at hs); omega)
    have hy_w3_w : w.heap.size < w3.heap.size + 1 := (by omega)
    have hx_w3_w : w.heap.size < w3.heap.size + 1 + 1 := (by omega)
    have hc_w3_w := fun o => hb_w3.cell (p := ⟨w.heap.size, o, none⟩) (by first | omega | (simp; done) | (simp; omega))
    have hf_w3_w := fun o => hb_w3.frozen (p := ⟨w.heap.size, o, none⟩) (by first | omega | (simp; done) | (simp; omega))
    have hz_w3_wp1 : w.heap.size + 1 < w3.heap.size := (by have hs := hb_w3.size; (try simp at hs); omega)
    have hy_w3_wp1 : w.heap.size + 1 < w3.heap.size + 1 := (by omega)
    have hx_w3_wp1 : w.heap.size + 1 < w3.heap.size + 1 + 1 := (by omega)
    have hc_w3_wp1 := fun o => hb_w3.cell (p := ⟨w.heap.size + 1, o, none⟩) (by first | omega | (simp; done) | (simp; omega))
    have hf_w3_wp1 := fun o => hb_w3.frozen (p := ⟨w.heap.size + 1, o, none⟩) (by first | omega | (simp; done) | (simp; omega))
    have hz_w3_w2 : w2.heap.size < w3.heap.size := (by have hs := hb_w3.size; (try simp at hs); omega)
    have hy_w3_w2 : w2.heap.size < w3.heap.size + 1 := (by omega)
    have hx_w3_w2 : w2.heap.size < w3.heap.size + 1 + 1 := (by omega)
    have hc_w3_w2 := fun o => hb_w3.cell (p := ⟨w2.heap.size, o, none⟩) (by first | omega | (simp; done) | (simp; omega))
    have hf_w3_w2 := fun o => hb_w3.frozen (p := ⟨w2.heap.size, o, none⟩) (by first | omega | (simp; done) | (simp; omega))
    go_wp2_with fail
    refine (CK.out _).mono ?_
    rintro e w4 ⟨rfl, hb_w4⟩
    have hs_w4 := hb_w4.size
    (try simp at hs_w4)
    have hz_w4_wp1 : w.heap.size + 1 < w4.heap.size := (by have hs := hb_w4.size; (try simp at hs); omega)
    have hy_w4_wp1 : w.heap.size + 1 < w4.heap.size + 1 := (by omega)
    have hx_w4_wp1 : w.heap.size + 1 < w4.heap.size + 1 + 1 := (by omega)
    have hc_w4_wp1 := fun o => hb_w4.cell (p := ⟨w.heap.size + 1, o, none⟩) (by first | omega | (simp; done) | (simp; omega))
    have hf_w4_wp1 := fun o => hb_w4.frozen (p := ⟨w.heap.size + 1, o, none⟩) (by first | omega | (simp; done) | (simp; omega))
    go_wp2
    refine bodyPost_ret (by simp [results, Try.results50, go_sem, *]; first | done | rfl) rfl ?_
    exact ⟨rfl, (by repeat' (first | (with_reducible exact Below.refl _ _) | (with_reducible assumption) | (with_reducible refine bl_alloc ?_ _) | (with_reducible refine bl_drew ?_) | (with_reducible refine bl_drewN ?_) | (with_reducible refine bl_setCell ?_ ?_ _) | (with_reducible refine bl_call ?_ (by with_reducible assumption)) | omega | (simp; done) | (simp; omega)))⟩
end Go.Proofs.Ytjgmjnjpgdadhaa
