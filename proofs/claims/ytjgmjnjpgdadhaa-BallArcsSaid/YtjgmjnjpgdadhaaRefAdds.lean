/- The walks of the reference's sums, differences, conjugates and turned balls. -/
import Derived.Test.YtjgmjnjpgdadhaaQuad
namespace Go.Proofs.Ytjgmjnjpgdadhaa
open Go.RowKit

set_option maxHeartbeats 400000 in
theorem bMod_any (n b : Int) (w : World) (_h1 : -4611686018427387904 ≤ n) (_h2 : n ≤ 4611686018427387904) (h3 : 1 ≤ b) (h4 : b ≤ 4611686018427387904) :
    Calls Try.prog 98 #[.int .i64 n, .int .i64 b] w fun e w' => e = .returned (.int .i64 (n % b)) ∧ w' = w := by
  have e1 := Int.mul_tdiv_add_tmod n b
  have b1 := Int.tmod_lt_of_pos n (show 0 < b by omega)
  have b2 : -b < n.tmod b := by have := Int.tmod_lt_of_pos (-n) (show 0 < b by omega); rw [Int.neg_tmod] at this; omega
  have E : Hid (n % b = if n.tmod b < 0 then n.tmod b + b else n.tmod b) := by
    refine Lib.hid ?_
    by_cases h : n.tmod b < 0
    · rw [if_pos h]
      exact ((Int.ediv_emod_unique (a := n) (b := b) (r := n.tmod b + b) (q := n.tdiv b - 1) (by omega)).2 ⟨by rw [Int.mul_sub]; omega, by omega, by omega⟩).2
    · rw [if_neg h]
      exact ((Int.ediv_emod_unique (a := n) (b := b) (r := n.tmod b) (q := n.tdiv b) (by omega)).2 ⟨by omega, by omega, by omega⟩).2
  clear e1
  by_cases h : n.tmod b < 0
  · go_enter Try.func98, Try.ntmps98
    go_wp2
    go_ret
    exact ⟨ret_int (by rw [E.out, if_pos h]), rfl⟩
  · go_enter Try.func98, Try.ntmps98
    go_wp2
    go_ret
    exact ⟨ret_int (by rw [E.out, if_neg (by omega)]), rfl⟩

set_option maxHeartbeats 1000000 in
theorem rPlus_any (a b r c d s : Int) (w : World) (h : Right a b r) (h' : Right c d s) :
    Calls Try.prog 44 #[.agg #[.int .i64 a, .int .i64 b, .int .i64 r], .agg #[.int .i64 c, .int .i64 d, .int .i64 s]] w fun e w' =>
      e = .returned (outR (fin (a + c) (b + d) (r + s) 0)) ∧ Below w.heap.size w w' := by
  rw [outR_quad]
  have C : Hid (∀ w, Calls Try.prog 77 #[.agg #[.int .i64 (a + c), .int .i64 (b + d), .int .i64 (r + s)]] w fun e w' => e = .returned (outR (fin (a + c) (b + d) (r + s) 0)) ∧ Below w.heap.size w w') := Lib.hid fun w => Checked_any _ _ _ w
  rw [outR_quad] at C
  obtain ⟨⟨h1, h2, h3, h4⟩, r0, r1⟩ := h
  obtain ⟨⟨h5, h6, h7, h8⟩, s0, s1⟩ := h'
  generalize fin (a + c) (b + d) (r + s) 0 = R at *
  go_enter Try.func44, Try.ntmps44
  go_wp2_with fail
  refine (C.out _).mono ?_
  rintro e w1 ⟨rfl, hb_w1⟩
  have hs_w1 := hb_w1.size
  (try simp at hs_w1)
  have hz_w1_wp2 : w.heap.size + 1 + 1 < w1.heap.size := (by have hs := hb_w1.size; (try simp at hs); omega)
  have hy_w1_wp2 : w.heap.size + 1 + 1 < w1.heap.size + 1 := (by omega)
  have hx_w1_wp2 : w.heap.size + 1 + 1 < w1.heap.size + 1 + 1 := (by omega)
  have hc_w1_wp2 := fun o => hb_w1.cell (p := ⟨w.heap.size + 1 + 1, o, none⟩) (by first | omega | (simp; done) | (simp; omega))
  have hf_w1_wp2 := fun o => hb_w1.frozen (p := ⟨w.heap.size + 1 + 1, o, none⟩) (by first | omega | (simp; done) | (simp; omega))
  go_wp2
  refine bodyPost_ret (by simp [results, Try.results44, go_sem, *]; first | done | rfl) rfl ?_
  exact ⟨rfl, (by repeat' (first | (with_reducible exact Below.refl _ _) | (with_reducible assumption) | (with_reducible refine bl_alloc ?_ _) | (with_reducible refine bl_drew ?_) | (with_reducible refine bl_drewN ?_) | (with_reducible refine bl_setCell ?_ ?_ _) | (with_reducible refine bl_call ?_ (by with_reducible assumption)) | omega | (simp; done) | (simp; omega)))⟩

set_option maxHeartbeats 1000000 in
theorem rMinus_any (a b r c d s : Int) (w : World) (h : Right a b r) (h' : Right c d s) :
    Calls Try.prog 45 #[.agg #[.int .i64 a, .int .i64 b, .int .i64 r], .agg #[.int .i64 c, .int .i64 d, .int .i64 s]] w fun e w' =>
      e = .returned (outR (fin (a - c) (b - d) (r + s) 0)) ∧ Below w.heap.size w w' := by
  rw [outR_quad]
  have C : Hid (∀ w, Calls Try.prog 77 #[.agg #[.int .i64 (a - c), .int .i64 (b - d), .int .i64 (r + s)]] w fun e w' => e = .returned (outR (fin (a - c) (b - d) (r + s) 0)) ∧ Below w.heap.size w w') := Lib.hid fun w => Checked_any _ _ _ w
  rw [outR_quad] at C
  obtain ⟨⟨h1, h2, h3, h4⟩, r0, r1⟩ := h
  obtain ⟨⟨h5, h6, h7, h8⟩, s0, s1⟩ := h'
  generalize fin (a - c) (b - d) (r + s) 0 = R at *
  go_enter Try.func45, Try.ntmps45
  go_wp2_with fail
  refine (C.out _).mono ?_
  rintro e w1 ⟨rfl, hb_w1⟩
  have hs_w1 := hb_w1.size
  (try simp at hs_w1)
  have hz_w1_wp2 : w.heap.size + 1 + 1 < w1.heap.size := (by have hs := hb_w1.size; (try simp at hs); omega)
  have hy_w1_wp2 : w.heap.size + 1 + 1 < w1.heap.size + 1 := (by omega)
  have hx_w1_wp2 : w.heap.size + 1 + 1 < w1.heap.size + 1 + 1 := (by omega)
  have hc_w1_wp2 := fun o => hb_w1.cell (p := ⟨w.heap.size + 1 + 1, o, none⟩) (by first | omega | (simp; done) | (simp; omega))
  have hf_w1_wp2 := fun o => hb_w1.frozen (p := ⟨w.heap.size + 1 + 1, o, none⟩) (by first | omega | (simp; done) | (simp; omega))
  go_wp2
  refine bodyPost_ret (by simp [results, Try.results45, go_sem, *]; first | done | rfl) rfl ?_
  exact ⟨rfl, (by repeat' (first | (with_reducible exact Below.refl _ _) | (with_reducible assumption) | (with_reducible refine bl_alloc ?_ _) | (with_reducible refine bl_drew ?_) | (with_reducible refine bl_drewN ?_) | (with_reducible refine bl_setCell ?_ ?_ _) | (with_reducible refine bl_call ?_ (by with_reducible assumption)) | omega | (simp; done) | (simp; omega)))⟩

set_option maxHeartbeats 1000000 in
theorem rConj_any (a b r : Int) (w : World) (h1 : Sh b) :
    Calls Try.prog 42 #[.agg #[.int .i64 a, .int .i64 b, .int .i64 r]] w fun e w' => e = .returned (.agg #[.int .i64 a, .int .i64 (-b), .int .i64 r]) ∧ Below w.heap.size w w' := by
  unfold Sh at h1
  go_enter Try.func42, Try.ntmps42
  go_wp2
  refine bodyPost_ret (by simp [results, Try.results42, go_sem, *]; first | done | rfl) rfl ?_
  exact ⟨rfl, (by repeat' (first | (with_reducible exact Below.refl _ _) | (with_reducible assumption) | (with_reducible refine bl_alloc ?_ _) | (with_reducible refine bl_drew ?_) | (with_reducible refine bl_drewN ?_) | (with_reducible refine bl_setCell ?_ ?_ _) | (with_reducible refine bl_call ?_ (by with_reducible assumption)) | omega | (simp; done) | (simp; omega)))⟩

set_option maxHeartbeats 1000000 in
theorem rTurned_any (a b r k : Int) (w : World) (h1 : Sh a) (h2 : Sh b) (hk : inPart k) :
    Calls Try.prog 43 #[.agg #[.int .i64 a, .int .i64 b, .int .i64 r], .int .i64 k] w fun e w' => e = .returned (.agg #[.int .i64 (tuX (qu k) a b), .int .i64 (tuY (qu k) a b), .int .i64 r]) ∧ Below w.heap.size w w' := by
  obtain ⟨k0, k1⟩ := hk
  have hm : ∀ w, Calls Try.prog 98 #[.int .i64 k, .int .i64 4] w fun e w' => e = .returned (.int .i64 (qu k : Nat)) ∧ w' = w := fun w => by
    have := bMod_any k 4 w (by omega) (by omega) (by omega) (by omega)
    have e : ((qu k : Nat) : Int) = k % 4 := by unfold qu; omega
    rw [e]; exact this
  have HM := Lib.hid hm
  clear hm
  have hq := qu_lt k
  generalize qu k = q at *
  unfold Sh at h1 h2
  have hq4 : q = 0 ∨ q = 1 ∨ q = 2 ∨ q = 3 := by omega
  clear hq
  rcases hq4 with rfl | rfl | rfl | rfl
  · rw [(tu0 a b).1, (tu0 a b).2]
    go_enter Try.func43, Try.ntmps43
    go_wp2
    refine wp_loop_rounds 1 ?_
    rw [rounds_succ]
    go_wp2_with (go_at_call 98; (with_reducible refine (HM.out _).mono ?_); rintro e w' ⟨rfl, rfl⟩)
    go_returns
    exact ⟨rfl, (by repeat' (first | (with_reducible exact Below.refl _ _) | (with_reducible assumption) | (with_reducible refine bl_alloc ?_ _) | (with_reducible refine bl_drew ?_) | (with_reducible refine bl_drewN ?_) | (with_reducible refine bl_setCell ?_ ?_ _) | (with_reducible refine bl_call ?_ (by with_reducible assumption)) | omega | (simp; done) | (simp; omega)))⟩
  · rw [(tu1 a b).1, (tu1 a b).2]
    go_enter Try.func43, Try.ntmps43
    go_wp2
    refine wp_loop_rounds 2 ?_
    iterate 2 (rw [rounds_succ]; go_wp2_with (go_at_call 98; (with_reducible refine (HM.out _).mono ?_); rintro e w' ⟨rfl, rfl⟩))
    go_returns
    exact ⟨rfl, (by repeat' (first | (with_reducible exact Below.refl _ _) | (with_reducible assumption) | (with_reducible refine bl_alloc ?_ _) | (with_reducible refine bl_drew ?_) | (with_reducible refine bl_drewN ?_) | (with_reducible refine bl_setCell ?_ ?_ _) | (with_reducible refine bl_call ?_ (by with_reducible assumption)) | omega | (simp; done) | (simp; omega)))⟩
  · rw [(tu2 a b).1, (tu2 a b).2]
    go_enter Try.func43, Try.ntmps43
    go_wp2
    refine wp_loop_rounds 3 ?_
    iterate 3 (rw [rounds_succ]; go_wp2_with (go_at_call 98; (with_reducible refine (HM.out _).mono ?_); rintro e w' ⟨rfl, rfl⟩))
    go_returns
    exact ⟨rfl, (by repeat' (first | (with_reducible exact Below.refl _ _) | (with_reducible assumption) | (with_reducible refine bl_alloc ?_ _) | (with_reducible refine bl_drew ?_) | (with_reducible refine bl_drewN ?_) | (with_reducible refine bl_setCell ?_ ?_ _) | (with_reducible refine bl_call ?_ (by with_reducible assumption)) | omega | (simp; done) | (simp; omega)))⟩
  · rw [(tu3 a b).1, (tu3 a b).2]
    go_enter Try.func43, Try.ntmps43
    go_wp2
    refine wp_loop_rounds 4 ?_
    iterate 4 (rw [rounds_succ]; go_wp2_with (go_at_call 98; (with_reducible refine (HM.out _).mono ?_); rintro e w' ⟨rfl, rfl⟩))
    go_returns
    exact ⟨rfl, (by repeat' (first | (with_reducible exact Below.refl _ _) | (with_reducible assumption) | (with_reducible refine bl_alloc ?_ _) | (with_reducible refine bl_drew ?_) | (with_reducible refine bl_drewN ?_) | (with_reducible refine bl_setCell ?_ ?_ _) | (with_reducible refine bl_call ?_ (by with_reducible assumption)) | omega | (simp; done) | (simp; omega)))⟩
end Go.Proofs.Ytjgmjnjpgdadhaa
