/- The walks behind the document's examples: an arc, a quotient. -/
import Derived.Test.YtjgmjnjpgdadhaaAwake2
import Derived.Test.YtjgmjnjpgdadhaaCalmNew
import Derived.Lib.Mul64
import Derived.Shelf.Bits.Mul64
namespace Go.Proofs.Ytjgmjnjpgdadhaa
open Go.RowKit

set_option maxHeartbeats 1000000 in
theorem checkParts_ok (lo hi least : Int) (w : World) (h1 : least ≤ lo) (h2 : lo ≤ hi) (h3 : hi ≤ 1099511627776) :
    Calls Try.prog 92 #[.agg #[.int .i64 lo, .int .i64 hi], .int .i64 least] w fun e w' => e = .returned (.int .i64 0) ∧ Below w.heap.size w w' := by
  have a1 : (decide (least ≤ lo) && decide (lo ≤ 1099511627776)) = true := by simp; omega
  by_cases hl : least < 0
  all_goals
    go_enter Try.func92, Try.ntmps92
    go_wp2_with (go_at_call 95; (with_reducible refine (within_any _ _ _ _).mono ?_); rintro e w' ⟨rfl, rfl⟩; rw [a1])
    go_ret
    exact ⟨rfl, (by repeat' (first | (with_reducible exact Below.refl _ _) | (with_reducible assumption) | (with_reducible refine bl_alloc ?_ _) | (with_reducible refine bl_drew ?_) | (with_reducible refine bl_drewN ?_) | (with_reducible refine bl_setCell ?_ ?_ _) | (with_reducible refine bl_call ?_ (by with_reducible assumption)) | omega | (simp; done) | (simp; omega)))⟩

set_option maxHeartbeats 1000000 in
theorem Arc_eighth (w : World) :
    Calls Try.prog 30 #[.agg #[.int .i64 524288, .int .i64 524288]] w fun e w' => e = .returned (.tuple #[.agg #[.complex .f64 (fl 741455) (fl 741455), .int .i64 2], .int .i64 0]) ∧ Below w.heap.size w w' := by
  go_enter Try.func30, Try.ntmps30
  go_wp2_with (first
    | (go_at_call 92; (with_reducible refine (checkParts_ok _ _ _ _ (by omega) (by omega) (by omega)).mono ?_); rintro e w1 ⟨rfl, hb1⟩; have hz_w1_w : w.heap.size < w1.heap.size := (by have hs := hb1.size; (try simp at hs); omega); have hy_w1_w : w.heap.size < w1.heap.size + 1 := (by omega); have hx_w1_w : w.heap.size < w1.heap.size + 1 + 1 := (by omega); have hc_w1_w := fun o => hb1.cell (p := ⟨w.heap.size, o, none⟩) (by first | omega | (simp; done) | (simp; omega)); have hf_w1_w := fun o => hb1.frozen (p := ⟨w.heap.size, o, none⟩) (by first | omega | (simp; done) | (simp; omega)); have hz_w1_wp1 : w.heap.size + 1 < w1.heap.size := (by have hs := hb1.size; (try simp at hs); omega); have hy_w1_wp1 : w.heap.size + 1 < w1.heap.size + 1 := (by omega); have hx_w1_wp1 : w.heap.size + 1 < w1.heap.size + 1 + 1 := (by omega); have hc_w1_wp1 := fun o => hb1.cell (p := ⟨w.heap.size + 1, o, none⟩) (by first | omega | (simp; done) | (simp; omega)); have hf_w1_wp1 := fun o => hb1.frozen (p := ⟨w.heap.size + 1, o, none⟩) (by first | omega | (simp; done) | (simp; omega)))
    | (go_at_call 93; (with_reducible refine (arc_eighth _).mono ?_); rintro e w2 ⟨rfl, hb2⟩; have hz_w2_w : w.heap.size < w2.heap.size := (by have hs := hb2.size; (try simp at hs); omega); have hy_w2_w : w.heap.size < w2.heap.size + 1 := (by omega); have hx_w2_w : w.heap.size < w2.heap.size + 1 + 1 := (by omega); have hc_w2_w := fun o => hb2.cell (p := ⟨w.heap.size, o, none⟩) (by first | omega | (simp; done) | (simp; omega)); have hf_w2_w := fun o => hb2.frozen (p := ⟨w.heap.size, o, none⟩) (by first | omega | (simp; done) | (simp; omega)); have hz_w2_wp1 : w.heap.size + 1 < w2.heap.size := (by have hs := hb2.size; (try simp at hs); omega); have hy_w2_wp1 : w.heap.size + 1 < w2.heap.size + 1 := (by omega); have hx_w2_wp1 : w.heap.size + 1 < w2.heap.size + 1 + 1 := (by omega); have hc_w2_wp1 := fun o => hb2.cell (p := ⟨w.heap.size + 1, o, none⟩) (by first | omega | (simp; done) | (simp; omega)); have hf_w2_wp1 := fun o => hb2.frozen (p := ⟨w.heap.size + 1, o, none⟩) (by first | omega | (simp; done) | (simp; omega))))
  refine bodyPost_ret (by simp [results, Try.results30, go_sem, *]; first | done | rfl) rfl ?_
  exact ⟨rfl, (by repeat' (first | (with_reducible exact Below.refl _ _) | (with_reducible assumption) | (with_reducible refine bl_alloc ?_ _) | (with_reducible refine bl_drew ?_) | (with_reducible refine bl_drewN ?_) | (with_reducible refine bl_setCell ?_ ?_ _) | (with_reducible refine bl_call ?_ (by with_reducible assumption)) | omega | (simp; done) | (simp; omega)))⟩

set_option maxHeartbeats 1000000 in
theorem Mul64_any (x y : Nat) (hx : x < 18446744073709551616) (hy : y < 18446744073709551616) (w : World) :
    Calls Try.prog 129 #[.int .u64 x, .int .u64 y] w fun e w' => e = .returned (.tuple #[.int .u64 ((x * y / 18446744073709551616 : Nat) : Int), .int .u64 ((x * y % 18446744073709551616 : Nat) : Int)]) ∧ w' = w := by
  obtain ⟨bd, bt, bw, hhi⟩ := Lib.mul64_hi x y hx hy
  have ba := Lib.half_mul_le (a := x / 4294967296) (b := y / 4294967296) (by omega) (by omega)
  have bb := Lib.half_mul_le (a := x / 4294967296) (b := y % 4294967296) (by omega) (by omega)
  have bc := Lib.half_mul_le (a := x % 4294967296) (b := y / 4294967296) (by omega) (by omega)
  have ba' : x / 4294967296 * (y / 4294967296) < 18446744073709551616 := by omega
  have bb' : x / 4294967296 * (y % 4294967296) < 18446744073709551616 := by omega
  have bc' : x % 4294967296 * (y / 4294967296) < 18446744073709551616 := by omega
  have bh1 : x / 4294967296 * (y / 4294967296) + (x / 4294967296 * (y % 4294967296) + x % 4294967296 * (y % 4294967296) / 4294967296) / 4294967296 < 18446744073709551616 := by omega
  have bh : x / 4294967296 * (y / 4294967296) + (x / 4294967296 * (y % 4294967296) + x % 4294967296 * (y % 4294967296) / 4294967296) / 4294967296 + ((x / 4294967296 * (y % 4294967296) + x % 4294967296 * (y % 4294967296) / 4294967296) % 4294967296 + x % 4294967296 * (y / 4294967296)) / 4294967296 < 18446744073709551616 := by
    rw [hhi]
    exact Nat.div_lt_of_lt_mul (Nat.mul_lt_mul'' hx hy)
  go_enter Try.func129, Try.ntmps129
  go_wp2
  simp only [Mul64.maskN x hx, Mul64.maskN y hy, Mul64.divN, Mul64.mulN, Mul64.addN, Mul64.wrapN _ bd, Mul64.wrapN _ bb', Mul64.wrapN _ bt, Mul64.maskN _ bt, Mul64.wrapN _ bc', Mul64.wrapN _ bw, Mul64.wrapN _ ba', Mul64.wrapN _ bh1, Mul64.wrapN _ bh, Mul64.wrapM (x * y)]
  rw [hhi]
  go_ret2
  exact ⟨rfl, rfl⟩

set_option maxHeartbeats 1000000 in
/-- A quotient whose high half is nought. -/
theorem Div64_low (n y : Nat) (hn : n < 18446744073709551616) (h0 : 0 < y) (hy : y < 18446744073709551616) (w : World) :
    Calls Try.prog 130 #[.int .u64 0, .int .u64 n, .int .u64 y] w fun e w' => e = .returned (.tuple #[.int .u64 ((n / y : Nat) : Int), .int .u64 ((n % y : Nat) : Int)]) ∧ ∃ k, w' = w.drewN k := by
  have n0 : (0 : Int) ≤ n := Int.natCast_nonneg _
  have y1 : (1 : Int) ≤ y := by omega
  have q0 : (0 : Int) ≤ (n : Int) / y := Int.ediv_nonneg n0 (by omega)
  have q1 : (n : Int) / y ≤ 18446744073709551615 := ediv_hi y1 (by omega) (by omega)
  go_enter Try.func130, Try.ntmps130
  go_wp2_with fail
  go_quiet (fail)
  go_wp2
  go_ret2
  exact ⟨by rw [Int.natCast_ediv, Int.natCast_emod]; rfl, _, rfl⟩

theorem mul_a (w : World) : Calls Try.prog 129 #[.int .u64 6291456, .int .u64 1048576] w fun e w' => e = .returned (.tuple #[.int .u64 0, .int .u64 6597069766656]) ∧ w' = w :=
  Mul64_any 6291456 1048576 (by omega) (by omega) w
theorem mul_b (w : World) : Calls Try.prog 129 #[.int .u64 0, .int .u64 1048576] w fun e w' => e = .returned (.tuple #[.int .u64 0, .int .u64 0]) ∧ w' = w :=
  Mul64_any 0 1048576 (by omega) (by omega) w
theorem div_a (w : World) : Calls Try.prog 130 #[.int .u64 0, .int .u64 6597069766656, .int .u64 4398046511104] w fun e w' => e = .returned (.tuple #[.int .u64 1, .int .u64 2199023255552]) ∧ ∃ k, w' = w.drewN k :=
  Div64_low 6597069766656 4398046511104 (by omega) (by omega) (by omega) w
theorem div_b (w : World) : Calls Try.prog 130 #[.int .u64 0, .int .u64 0, .int .u64 4398046511104] w fun e w' => e = .returned (.tuple #[.int .u64 0, .int .u64 0]) ∧ ∃ k, w' = w.drewN k :=
  Div64_low 0 4398046511104 (by omega) (by omega) (by omega) w

set_option maxHeartbeats 1000000 in
theorem quotient_a (w : World) :
    Calls Try.prog 83 #[.int .i64 6291456, .int .i64 1048576, .int .i64 4398046511104] w fun e w' => e = .returned (.tuple #[.int .i64 2, .bool true]) ∧ Below w.heap.size w w' := by
  go_enter Try.func83, Try.ntmps83
  go_wp2_with (first
    | (go_at_call 111; (with_reducible refine (size_any _ _ (by omega) (by omega)).mono ?_); rintro e w' ⟨rfl, rfl⟩)
    | (go_at_call 129; refine (mul_a _).mono ?_; rintro e w' ⟨rfl, rfl⟩)
    | (go_at_call 130; refine (div_a _).mono ?_; rintro e w' ⟨rfl, k, rfl⟩))
  go_ret2
  exact ⟨rfl, (by repeat' (first | (with_reducible exact Below.refl _ _) | (with_reducible assumption) | (with_reducible refine bl_alloc ?_ _) | (with_reducible refine bl_drew ?_) | (with_reducible refine bl_drewN ?_) | (with_reducible refine bl_setCell ?_ ?_ _) | (with_reducible refine bl_call ?_ (by with_reducible assumption)) | omega | (simp; done) | (simp; omega)))⟩

set_option maxHeartbeats 1000000 in
theorem quotient_b (w : World) :
    Calls Try.prog 83 #[.int .i64 0, .int .i64 1048576, .int .i64 4398046511104] w fun e w' => e = .returned (.tuple #[.int .i64 0, .bool false]) ∧ Below w.heap.size w w' := by
  go_enter Try.func83, Try.ntmps83
  go_wp2_with (first
    | (go_at_call 111; (with_reducible refine (size_any _ _ (by omega) (by omega)).mono ?_); rintro e w' ⟨rfl, rfl⟩)
    | (go_at_call 129; refine (mul_b _).mono ?_; rintro e w' ⟨rfl, rfl⟩)
    | (go_at_call 130; refine (div_b _).mono ?_; rintro e w' ⟨rfl, k, rfl⟩))
  go_ret2
  exact ⟨rfl, (by repeat' (first | (with_reducible exact Below.refl _ _) | (with_reducible assumption) | (with_reducible refine bl_alloc ?_ _) | (with_reducible refine bl_drew ?_) | (with_reducible refine bl_drewN ?_) | (with_reducible refine bl_setCell ?_ ?_ _) | (with_reducible refine bl_call ?_ (by with_reducible assumption)) | omega | (simp; done) | (simp; omega)))⟩

set_option maxHeartbeats 1000000 in
theorem quotientUp_b (w : World) :
    Calls Try.prog 85 #[.int .i64 0, .int .i64 1048576, .int .i64 4398046511104] w fun e w' => e = .returned (.int .i64 0) ∧ Below w.heap.size w w' := by
  go_enter Try.func85, Try.ntmps85
  go_wp2_with (first
    | (go_at_call 129; refine (mul_b _).mono ?_; rintro e w' ⟨rfl, rfl⟩)
    | (go_at_call 130; refine (div_b _).mono ?_; rintro e w' ⟨rfl, k, rfl⟩))
  go_ret
  exact ⟨rfl, (by repeat' (first | (with_reducible exact Below.refl _ _) | (with_reducible assumption) | (with_reducible refine bl_alloc ?_ _) | (with_reducible refine bl_drew ?_) | (with_reducible refine bl_drewN ?_) | (with_reducible refine bl_setCell ?_ ?_ _) | (with_reducible refine bl_call ?_ (by with_reducible assumption)) | omega | (simp; done) | (simp; omega)))⟩

theorem rt_den : rt 4398046511104 = 2097152 := by decide +kernel
theorem rtu_den : rtu 4398046511104 = 2097152 := by decide +kernel
theorem rtu_nine : rtu 9 = 3 := by decide +kernel

set_option maxHeartbeats 2000000 in
theorem quotient1_a (w : World) :
    Calls Try.prog 80 #[.agg #[.int .i64 3, .int .i64 0, .int .i64 0], .agg #[.int .i64 2097152, .int .i64 0, .int .i64 0]] w fun e w' =>
      e = .returned (.tuple #[.agg #[.int .i64 2, .int .i64 0, .int .i64 1], .int .i64 0]) ∧ Below w.heap.size w w' := by
  have s3 : Sh 3 := by unfold Sh; omega
  have s0 : Sh 0 := by unfold Sh; omega
  have sd : Sh 2097152 := by unfold Sh; omega
  have sn : Sm (-0) := by unfold Sm; omega
  have cd : ∀ w, Calls Try.prog 81 #[.agg #[.int .i64 2097152, .int .i64 0]] w fun e w' => e = .returned (.int .i64 2097152) ∧ Below w.heap.size w w' := fun w => by
    have := down_any 2097152 0 w sd s0
    rwa [show (2097152 * 2097152 + 0 * 0 : Int) = 4398046511104 from rfl, rt_den] at this
  have cu : ∀ w, Calls Try.prog 71 #[.agg #[.int .i64 2097152, .int .i64 0]] w fun e w' => e = .returned (.int .i64 2097152) ∧ Below w.heap.size w w' := fun w => by
    have := up_any 2097152 0 w sd s0
    rwa [show (2097152 * 2097152 + 0 * 0 : Int) = 4398046511104 from rfl, rtu_den] at this
  have ca : ∀ w, Calls Try.prog 71 #[.agg #[.int .i64 3, .int .i64 0]] w fun e w' => e = .returned (.int .i64 3) ∧ Below w.heap.size w w' := fun w => by
    have := up_any 3 0 w s3 s0
    rwa [show (3 * 3 + 0 * 0 : Int) = 9 from rfl, rtu_nine] at this
  have cq : ∀ w, Calls Try.prog 84 #[.agg #[.int .i64 2097152, .int .i64 0]] w fun e w' => e = .returned (.int .i64 4398046511104) ∧ Below w.heap.size w w' := fun w => square_any 2097152 0 w sd.sm s0.sm
  have cc : ∀ w, Calls Try.prog 82 #[.agg #[.int .i64 2097152, .int .i64 0]] w fun e w' => e = .returned (.agg #[.int .i64 2097152, .int .i64 0]) ∧ Below w.heap.size w w' := fun w => conj_any 2097152 0 w s0.sm
  have ct : ∀ w, Calls Try.prog 68 #[.agg #[.int .i64 3, .int .i64 0], .agg #[.int .i64 2097152, .int .i64 0]] w fun e w' => e = .returned (.agg #[.int .i64 6291456, .int .i64 0]) ∧ Below w.heap.size w w' := fun w => times_any 3 0 2097152 0 w s3.sm s0.sm sd.sm s0.sm
  have Cd := Lib.hid cd
  have Cu := Lib.hid cu
  have Ca := Lib.hid ca
  have Cq := Lib.hid cq
  have Cc := Lib.hid cc
  have Ct := Lib.hid ct
  clear cd cu ca cq cc ct
  have e1 := b1_true
  go_enter Try.func80, Try.ntmps80
  go_wp2_with fail
  refine (Cd.out _).mono ?_
  rintro e w1 ⟨rfl, hb1⟩
  have hz_w1_w : w.heap.size < w1.heap.size := (by have hs := hb1.size; (try simp at hs); omega)
  have hy_w1_w : w.heap.size < w1.heap.size + 1 := (by omega)
  have hx_w1_w : w.heap.size < w1.heap.size + 1 + 1 := (by omega)
  have hc_w1_w := fun o => hb1.cell (p := ⟨w.heap.size, o, none⟩) (by first | omega | (simp; done) | (simp; omega))
  have hf_w1_w := fun o => hb1.frozen (p := ⟨w.heap.size, o, none⟩) (by first | omega | (simp; done) | (simp; omega))
  have hz_w1_wp1 : w.heap.size + 1 < w1.heap.size := (by have hs := hb1.size; (try simp at hs); omega)
  have hy_w1_wp1 : w.heap.size + 1 < w1.heap.size + 1 := (by omega)
  have hx_w1_wp1 : w.heap.size + 1 < w1.heap.size + 1 + 1 := (by omega)
  have hc_w1_wp1 := fun o => hb1.cell (p := ⟨w.heap.size + 1, o, none⟩) (by first | omega | (simp; done) | (simp; omega))
  have hf_w1_wp1 := fun o => hb1.frozen (p := ⟨w.heap.size + 1, o, none⟩) (by first | omega | (simp; done) | (simp; omega))
  have hz_w1_wp2 : w.heap.size + 1 + 1 < w1.heap.size := (by have hs := hb1.size; (try simp at hs); omega)
  have hy_w1_wp2 : w.heap.size + 1 + 1 < w1.heap.size + 1 := (by omega)
  have hx_w1_wp2 : w.heap.size + 1 + 1 < w1.heap.size + 1 + 1 := (by omega)
  have hc_w1_wp2 := fun o => hb1.cell (p := ⟨w.heap.size + 1 + 1, o, none⟩) (by first | omega | (simp; done) | (simp; omega))
  have hf_w1_wp2 := fun o => hb1.frozen (p := ⟨w.heap.size + 1 + 1, o, none⟩) (by first | omega | (simp; done) | (simp; omega))
  go_wp2_with fail
  refine calm_new 6 #[.int .i64 0, .int .i64 0] 83 _ rfl (by kernel_rfl) (by kernel_rfl) (fun a w => by kernel_rfl) fun hG => ?_
  have hg_w := hG (w.heap.size) (by first | omega | (simp; done) | (simp; omega))
  have hg_wp1 := hG (w.heap.size + 1) (by first | omega | (simp; done) | (simp; omega))
  have hg_wp2 := hG (w.heap.size + 1 + 1) (by first | omega | (simp; done) | (simp; omega))
  clear hG
  simp only [List.take_succ_cons, List.take_zero, List.drop_succ_cons, List.drop_zero]
  repeat (refine wpCalm_step (fun K hK => ?_); go_simp; first | (refine hK _ ?_; clear hK K) | (apply Exists.intro; refine ⟨fun _ => ?_, hK _ ?_⟩; (first | (go_at_call 82; with_reducible exact cal_call Cc.out) | (go_at_call 68; with_reducible exact cal_call Ct.out)); clear hK K))
  refine wpCalm_nil ?_
  intro B w2 hN
  obtain ⟨hb_w2, hlo_B, hhi_B, hc_B, hf_B⟩ := hN
  clear hg_w hg_wp1 hg_wp2
  have hz_w2_w : w.heap.size < w2.heap.size := (by have hs := hb_w2.size; (try simp at hs); omega)
  have hy_w2_w : w.heap.size < w2.heap.size + 1 := (by omega)
  have hx_w2_w : w.heap.size < w2.heap.size + 1 + 1 := (by omega)
  have hc_w2_w := fun o => hb_w2.cell (p := ⟨w.heap.size, o, none⟩) (by first | omega | (simp; done) | (simp; omega))
  have hf_w2_w := fun o => hb_w2.frozen (p := ⟨w.heap.size, o, none⟩) (by first | omega | (simp; done) | (simp; omega))
  have hz_w2_wp1 : w.heap.size + 1 < w2.heap.size := (by have hs := hb_w2.size; (try simp at hs); omega)
  have hy_w2_wp1 : w.heap.size + 1 < w2.heap.size + 1 := (by omega)
  have hx_w2_wp1 : w.heap.size + 1 < w2.heap.size + 1 + 1 := (by omega)
  have hc_w2_wp1 := fun o => hb_w2.cell (p := ⟨w.heap.size + 1, o, none⟩) (by first | omega | (simp; done) | (simp; omega))
  have hf_w2_wp1 := fun o => hb_w2.frozen (p := ⟨w.heap.size + 1, o, none⟩) (by first | omega | (simp; done) | (simp; omega))
  have hz_w2_wp2 : w.heap.size + 1 + 1 < w2.heap.size := (by have hs := hb_w2.size; (try simp at hs); omega)
  have hy_w2_wp2 : w.heap.size + 1 + 1 < w2.heap.size + 1 := (by omega)
  have hx_w2_wp2 : w.heap.size + 1 + 1 < w2.heap.size + 1 + 1 := (by omega)
  have hc_w2_wp2 := fun o => hb_w2.cell (p := ⟨w.heap.size + 1 + 1, o, none⟩) (by first | omega | (simp; done) | (simp; omega))
  have hf_w2_wp2 := fun o => hb_w2.frozen (p := ⟨w.heap.size + 1 + 1, o, none⟩) (by first | omega | (simp; done) | (simp; omega))
  have hn_B_w : ¬ B = w.heap.size := by first | omega | (simp at hlo_B; omega)
  have hm_B_w : ¬ w.heap.size = B := by first | omega | (simp at hlo_B; omega)
  have hn_B_wp1 : ¬ B = w.heap.size + 1 := by first | omega | (simp at hlo_B; omega)
  have hm_B_wp1 : ¬ w.heap.size + 1 = B := by first | omega | (simp at hlo_B; omega)
  have hn_B_wp2 : ¬ B = w.heap.size + 1 + 1 := by first | omega | (simp at hlo_B; omega)
  have hm_B_wp2 : ¬ w.heap.size + 1 + 1 = B := by first | omega | (simp at hlo_B; omega)
  go_wp2_with fail
  refine calm_all (by kernel_rfl) (by kernel_rfl) fun hG => ?_
  have hg_w := hG (w.heap.size) (by first | omega | (simp; done) | (simp; omega))
  have hg_wp1 := hG (w.heap.size + 1) (by first | omega | (simp; done) | (simp; omega))
  have hg_wp2 := hG (w.heap.size + 1 + 1) (by first | omega | (simp; done) | (simp; omega))
  have hg_xB := hG (B) (by first | omega | (simp; done) | (simp; omega))
  clear hG
  repeat (go_big_quiet_step (first | (go_at_call 84; with_reducible exact calm_call Cq.out) | (go_at_call 83; with_reducible exact calm_call (fun w => quotient_a w))))
  refine wpQuiet_nil ?_
  intro w3 hb_w3
  clear hg_w hg_wp1 hg_wp2 hg_xB
  have hz_w3_w : w.heap.size < w3.heap.size := (by have hs := hb_w3.size; (try simp at hs); omega)
  have hy_w3_w : w.heap.size < w3.heap.size + 1 := (by omega)
  have hx_w3_w : w.heap.size < w3.heap.size + 1 + 1 := (by omega)
  have hc_w3_w := fun o => hb_w3.cell (p := ⟨w.heap.size, o, none⟩) (by first | omega | (simp; done) | (simp; omega))
  have hf_w3_w := fun o => hb_w3.frozen (p := ⟨w.heap.size, o, none⟩) (by first | omega | (simp; done) | (simp; omega))
  have hz_w3_wp1 : w.heap.size + 1 < w3.heap.size := (by have hs := hb_w3.size; (try simp at hs); omega)
  have hy_w3_wp1 : w.heap.size + 1 < w3.heap.size + 1 := (by omega)
  have hx_w3_wp1 : w.heap.size + 1 < w3.heap.size + 1 + 1 := (by omega)
  have hc_w3_wp1 := fun o => hb_w3.cell (p := ⟨w.heap.size + 1, o, none⟩) (by first | omega | (simp; done) | (simp; omega))
  have hf_w3_wp1 := fun o => hb_w3.frozen (p := ⟨w.heap.size + 1, o, none⟩) (by first | omega | (simp; done) | (simp; omega))
  have hz_w3_wp2 : w.heap.size + 1 + 1 < w3.heap.size := (by have hs := hb_w3.size; (try simp at hs); omega)
  have hy_w3_wp2 : w.heap.size + 1 + 1 < w3.heap.size + 1 := (by omega)
  have hx_w3_wp2 : w.heap.size + 1 + 1 < w3.heap.size + 1 + 1 := (by omega)
  have hc_w3_wp2 := fun o => hb_w3.cell (p := ⟨w.heap.size + 1 + 1, o, none⟩) (by first | omega | (simp; done) | (simp; omega))
  have hf_w3_wp2 := fun o => hb_w3.frozen (p := ⟨w.heap.size + 1 + 1, o, none⟩) (by first | omega | (simp; done) | (simp; omega))
  have hz_w3_xB : B < w3.heap.size := (by have hs := hb_w3.size; (try simp at hs); omega)
  have hy_w3_xB : B < w3.heap.size + 1 := (by omega)
  have hx_w3_xB : B < w3.heap.size + 1 + 1 := (by omega)
  have hc_w3_xB := fun o => hb_w3.cell (p := ⟨B, o, none⟩) (by first | omega | (simp; done) | (simp; omega))
  have hf_w3_xB := fun o => hb_w3.frozen (p := ⟨B, o, none⟩) (by first | omega | (simp; done) | (simp; omega))
  go_wp2_with fail
  refine calm_all (by kernel_rfl) (by kernel_rfl) fun hG => ?_
  have hg_w := hG (w.heap.size) (by first | omega | (simp; done) | (simp; omega))
  have hg_wp1 := hG (w.heap.size + 1) (by first | omega | (simp; done) | (simp; omega))
  have hg_wp2 := hG (w.heap.size + 1 + 1) (by first | omega | (simp; done) | (simp; omega))
  have hg_xB := hG (B) (by first | omega | (simp; done) | (simp; omega))
  clear hG
  repeat (go_big_quiet_step (first | (go_at_call 84; with_reducible exact calm_call Cq.out) | (go_at_call 83; with_reducible exact calm_call (fun w => quotient_b w))))
  refine wpQuiet_nil ?_
  intro w4 hb_w4
  clear hg_w hg_wp1 hg_wp2 hg_xB
  have hz_w4_w : w.heap.size < w4.heap.size := (by have hs := hb_w4.size; (try simp at hs); omega)
  have hy_w4_w : w.heap.size < w4.heap.size + 1 := (by omega)
  have hx_w4_w : w.heap.size < w4.heap.size + 1 + 1 := (by omega)
  have hc_w4_w := fun o => hb_w4.cell (p := ⟨w.heap.size, o, none⟩) (by first | omega | (simp; done) | (simp; omega))
  have hf_w4_w := fun o => hb_w4.frozen (p := ⟨w.heap.size, o, none⟩) (by first | omega | (simp; done) | (simp; omega))
  have hz_w4_wp1 : w.heap.size + 1 < w4.heap.size := (by have hs := hb_w4.size; (try simp at hs); omega)
  have hy_w4_wp1 : w.heap.size + 1 < w4.heap.size + 1 := (by omega)
  have hx_w4_wp1 : w.heap.size + 1 < w4.heap.size + 1 + 1 := (by omega)
  have hc_w4_wp1 := fun o => hb_w4.cell (p := ⟨w.heap.size + 1, o, none⟩) (by first | omega | (simp; done) | (simp; omega))
  have hf_w4_wp1 := fun o => hb_w4.frozen (p := ⟨w.heap.size + 1, o, none⟩) (by first | omega | (simp; done) | (simp; omega))
  have hz_w4_wp2 : w.heap.size + 1 + 1 < w4.heap.size := (by have hs := hb_w4.size; (try simp at hs); omega)
  have hy_w4_wp2 : w.heap.size + 1 + 1 < w4.heap.size + 1 := (by omega)
  have hx_w4_wp2 : w.heap.size + 1 + 1 < w4.heap.size + 1 + 1 := (by omega)
  have hc_w4_wp2 := fun o => hb_w4.cell (p := ⟨w.heap.size + 1 + 1, o, none⟩) (by first | omega | (simp; done) | (simp; omega))
  have hf_w4_wp2 := fun o => hb_w4.frozen (p := ⟨w.heap.size + 1 + 1, o, none⟩) (by first | omega | (simp; done) | (simp; omega))
  have hz_w4_xB : B < w4.heap.size := (by have hs := hb_w4.size; (try simp at hs); omega)
  have hy_w4_xB : B < w4.heap.size + 1 := (by omega)
  have hx_w4_xB : B < w4.heap.size + 1 + 1 := (by omega)
  have hc_w4_xB := fun o => hb_w4.cell (p := ⟨B, o, none⟩) (by first | omega | (simp; done) | (simp; omega))
  have hf_w4_xB := fun o => hb_w4.frozen (p := ⟨B, o, none⟩) (by first | omega | (simp; done) | (simp; omega))
  go_wp2_with fail
  refine calm_all (by kernel_rfl) (by kernel_rfl) fun hG => ?_
  have hg_w := hG (w.heap.size) (by first | omega | (simp; done) | (simp; omega))
  have hg_wp1 := hG (w.heap.size + 1) (by first | omega | (simp; done) | (simp; omega))
  have hg_wp2 := hG (w.heap.size + 1 + 1) (by first | omega | (simp; done) | (simp; omega))
  have hg_xB := hG (B) (by first | omega | (simp; done) | (simp; omega))
  clear hG
  repeat (go_big_quiet_step (first | (go_at_call 71; first | with_reducible exact calm_call Cu.out | with_reducible exact calm_call Ca.out) | (go_at_call 85; with_reducible exact calm_call (fun w => quotientUp_b w))))
  refine wpQuiet_nil ?_
  intro w5 hb_w5
  clear hg_w hg_wp1 hg_wp2 hg_xB
  have hz_w5_w : w.heap.size < w5.heap.size := (by have hs := hb_w5.size; (try simp at hs); omega)
  have hy_w5_w : w.heap.size < w5.heap.size + 1 := (by omega)
  have hx_w5_w : w.heap.size < w5.heap.size + 1 + 1 := (by omega)
  have hc_w5_w := fun o => hb_w5.cell (p := ⟨w.heap.size, o, none⟩) (by first | omega | (simp; done) | (simp; omega))
  have hf_w5_w := fun o => hb_w5.frozen (p := ⟨w.heap.size, o, none⟩) (by first | omega | (simp; done) | (simp; omega))
  have hz_w5_wp1 : w.heap.size + 1 < w5.heap.size := (by have hs := hb_w5.size; (try simp at hs); omega)
  have hy_w5_wp1 : w.heap.size + 1 < w5.heap.size + 1 := (by omega)
  have hx_w5_wp1 : w.heap.size + 1 < w5.heap.size + 1 + 1 := (by omega)
  have hc_w5_wp1 := fun o => hb_w5.cell (p := ⟨w.heap.size + 1, o, none⟩) (by first | omega | (simp; done) | (simp; omega))
  have hf_w5_wp1 := fun o => hb_w5.frozen (p := ⟨w.heap.size + 1, o, none⟩) (by first | omega | (simp; done) | (simp; omega))
  have hz_w5_wp2 : w.heap.size + 1 + 1 < w5.heap.size := (by have hs := hb_w5.size; (try simp at hs); omega)
  have hy_w5_wp2 : w.heap.size + 1 + 1 < w5.heap.size + 1 := (by omega)
  have hx_w5_wp2 : w.heap.size + 1 + 1 < w5.heap.size + 1 + 1 := (by omega)
  have hc_w5_wp2 := fun o => hb_w5.cell (p := ⟨w.heap.size + 1 + 1, o, none⟩) (by first | omega | (simp; done) | (simp; omega))
  have hf_w5_wp2 := fun o => hb_w5.frozen (p := ⟨w.heap.size + 1 + 1, o, none⟩) (by first | omega | (simp; done) | (simp; omega))
  have hz_w5_xB : B < w5.heap.size := (by have hs := hb_w5.size; (try simp at hs); omega)
  have hy_w5_xB : B < w5.heap.size + 1 := (by omega)
  have hx_w5_xB : B < w5.heap.size + 1 + 1 := (by omega)
  have hc_w5_xB := fun o => hb_w5.cell (p := ⟨B, o, none⟩) (by first | omega | (simp; done) | (simp; omega))
  have hf_w5_xB := fun o => hb_w5.frozen (p := ⟨B, o, none⟩) (by first | omega | (simp; done) | (simp; omega))
  go_wp2_with (go_at_call 72; (with_reducible refine (one_any _ _).mono ?_); rintro e w' ⟨rfl, rfl⟩)
  refine bodyPost_ret (by simp [results, Try.results80, go_sem, *]; first | done | rfl) rfl ?_
  exact ⟨rfl, (by repeat' (first | (with_reducible exact Below.refl _ _) | (with_reducible assumption) | (with_reducible refine bl_alloc ?_ _) | (with_reducible refine bl_drew ?_) | (with_reducible refine bl_drewN ?_) | (with_reducible refine bl_setCell ?_ ?_ _) | (with_reducible refine bl_call ?_ (by with_reducible assumption)) | omega | (simp; done) | (simp; omega)))⟩

theorem right_a : Right 3 0 0 := by unfold Right Fits; omega
theorem right_b : Right 2097152 0 0 := by unfold Right Fits; omega

set_option maxHeartbeats 1000000 in
theorem Quotient_a (w : World) :
    Calls Try.prog 23 #[.agg #[.complex .f64 (fl 3) (fl 0), .int .i64 0], .agg #[.complex .f64 (fl 2097152) (fl 0), .int .i64 0]] w fun e w' => e = .returned (.tuple #[.agg #[.complex .f64 (fl 2) (fl 0), .int .i64 1], .int .i64 0]) ∧ Below w.heap.size w w' := by
  have hd : ∀ w, Does2 80 #[] 3 0 0 2097152 0 0 w (.tuple #[.agg #[.int .i64 2, .int .i64 0, .int .i64 1], .int .i64 0]) := fun w w1 _ => by
    rw [Array.append_empty]
    exact quotient1_a w1
  go_enter Try.func23, Try.ntmps23
  go_wp2_with fail
  refine (binary_yes 3 0 0 2097152 0 0 2 0 1 _ _ (enters_of Try.func80 (by kernel_rfl) rfl) right_a right_b (hd _) (by unfold Right Fits; omega)).mono ?_
  rintro e w1 ⟨rfl, hb1⟩
  have hz_w1_w : w.heap.size < w1.heap.size := (by have hs := hb1.size; (try simp at hs); omega)
  have hy_w1_w : w.heap.size < w1.heap.size + 1 := (by omega)
  have hx_w1_w : w.heap.size < w1.heap.size + 1 + 1 := (by omega)
  have hc_w1_w := fun o => hb1.cell (p := ⟨w.heap.size, o, none⟩) (by first | omega | (simp; done) | (simp; omega))
  have hf_w1_w := fun o => hb1.frozen (p := ⟨w.heap.size, o, none⟩) (by first | omega | (simp; done) | (simp; omega))
  have hz_w1_wp1 : w.heap.size + 1 < w1.heap.size := (by have hs := hb1.size; (try simp at hs); omega)
  have hy_w1_wp1 : w.heap.size + 1 < w1.heap.size + 1 := (by omega)
  have hx_w1_wp1 : w.heap.size + 1 < w1.heap.size + 1 + 1 := (by omega)
  have hc_w1_wp1 := fun o => hb1.cell (p := ⟨w.heap.size + 1, o, none⟩) (by first | omega | (simp; done) | (simp; omega))
  have hf_w1_wp1 := fun o => hb1.frozen (p := ⟨w.heap.size + 1, o, none⟩) (by first | omega | (simp; done) | (simp; omega))
  have hz_w1_wp2 : w.heap.size + 1 + 1 < w1.heap.size := (by have hs := hb1.size; (try simp at hs); omega)
  have hy_w1_wp2 : w.heap.size + 1 + 1 < w1.heap.size + 1 := (by omega)
  have hx_w1_wp2 : w.heap.size + 1 + 1 < w1.heap.size + 1 + 1 := (by omega)
  have hc_w1_wp2 := fun o => hb1.cell (p := ⟨w.heap.size + 1 + 1, o, none⟩) (by first | omega | (simp; done) | (simp; omega))
  have hf_w1_wp2 := fun o => hb1.frozen (p := ⟨w.heap.size + 1 + 1, o, none⟩) (by first | omega | (simp; done) | (simp; omega))
  go_wp2
  refine bodyPost_ret (by simp [results, Try.results23, go_sem, *]; first | done | rfl) rfl ?_
  exact ⟨rfl, (by repeat' (first | (with_reducible exact Below.refl _ _) | (with_reducible assumption) | (with_reducible refine bl_alloc ?_ _) | (with_reducible refine bl_drew ?_) | (with_reducible refine bl_drewN ?_) | (with_reducible refine bl_setCell ?_ ?_ _) | (with_reducible refine bl_call ?_ (by with_reducible assumption)) | omega | (simp; done) | (simp; omega)))⟩
end Go.Proofs.Ytjgmjnjpgdadhaa
