/- The walks of all directions, arcs and unit numbers of the program. -/
import Derived.Test.YtjgmjnjpgdadhaaArcWalk
import Derived.Test.YtjgmjnjpgdadhaaRefAdds
import Derived.Test.YtjgmjnjpgdadhaaDrew
namespace Go.Proofs.Ytjgmjnjpgdadhaa
open Go.RowKit

set_option maxHeartbeats 1000000 in
theorem dir_b (m : Int) (p : Nat) (w : World) (h1 : -4611686018427387904 ≤ m) (h2 : m ≤ 4611686018427387904) (hp : (p : Int) = m % 4194304) (hc : 524288 < p) (hc2 : p < 1048576) :
    Calls Try.prog 133 #[.int .i64 m] w fun e w' => e = .returned (.agg #[.int .i64 (fstY (1048576 - p)), .int .i64 (fstX (1048576 - p))]) ∧ Below w.heap.size w w' := by
  have el : 1048576 - (m - 4194304 * (m / 4194304)) = (1048576 - p : Nat) := by omega
  have b1 : -4611686018427387904 - 4194304 ≤ 4194304 * (m / 4194304) := by omega
  have b2 : 4194304 * (m / 4194304) ≤ 4611686018427387904 := by omega
  have C := Lib.hid (fun w => floor_any m 4194304 w (by omega) (by omega) (by omega) (by omega))
  have CF := Lib.hid (fun w => first_any (1048576 - p) w (by omega))
  have c1 : m - 4194304 * (m / 4194304) < 1048576 := by omega
  have c2 : 524288 < m - 4194304 * (m / 4194304) := by omega
  have EL := Lib.hid el
  generalize m / 4194304 = f at *
  generalize fstX (1048576 - p) = X at *
  generalize fstY (1048576 - p) = Y at *
  clear hp hc el hc2
  go_enter Try.func133, Try.ntmps133
  go_wp2_with fail
  refine (C.out _).mono ?_
  rintro e w' ⟨rfl, rfl⟩
  go_wp2_with fail
  refine ((show ∀ w, Calls Try.prog 141 #[.int .i64 (1048576 - (m - 4194304 * f))] w _ from by rw [EL.out]; exact CF.out) _).mono ?_
  rintro e w1 ⟨rfl, hb_w1⟩
  have hs_w1 := hb_w1.size
  (try simp at hs_w1)
  have hz_w1_w : w.heap.size < w1.heap.size := (by have hs := hb_w1.size; (try simp at hs); omega)
  have hy_w1_w : w.heap.size < w1.heap.size + 1 := (by omega)
  have hx_w1_w : w.heap.size < w1.heap.size + 1 + 1 := (by omega)
  have hc_w1_w := fun o => hb_w1.cell (p := ⟨w.heap.size, o, none⟩) (by first | omega | (simp; done) | (simp; omega))
  have hf_w1_w := fun o => hb_w1.frozen (p := ⟨w.heap.size, o, none⟩) (by first | omega | (simp; done) | (simp; omega))
  go_wp2
  refine bodyPost_ret (by simp [results, Try.results133, go_sem, *]; first | done | rfl) rfl ?_
  exact ⟨rfl, (by repeat' (first | (with_reducible exact Below.refl _ _) | (with_reducible assumption) | (with_reducible refine bl_alloc ?_ _) | (with_reducible refine bl_drew ?_) | (with_reducible refine bl_drewN ?_) | (with_reducible refine bl_setCell ?_ ?_ _) | (with_reducible refine bl_call ?_ (by with_reducible assumption)) | omega | (simp; done) | (simp; omega)))⟩

set_option maxHeartbeats 1000000 in
theorem dir_c (m X Y : Int) (w : World) (h1 : -4611686018427387904 ≤ m) (h2 : m ≤ 4611686018427387904) (hc : 1048576 ≤ m - 4194304 * (m / 4194304)) (hc2 : m - 4194304 * (m / 4194304) < 2097152) (hd : Dsm X Y)
    (H : ∀ w, Calls Try.prog 133 #[.int .i64 (m - 4194304 * (m / 4194304) - 1048576)] w fun e w' => e = .returned (.agg #[.int .i64 X, .int .i64 Y]) ∧ Below w.heap.size w w') :
    Calls Try.prog 133 #[.int .i64 m] w fun e w' => e = .returned (.agg #[.int .i64 (-Y), .int .i64 X]) ∧ Below w.heap.size w w' := by
  have b1 : -4611686018427387904 - 4194304 ≤ 4194304 * (m / 4194304) := by omega
  have b2 : 4194304 * (m / 4194304) ≤ 4611686018427387904 := by omega
  have C := Lib.hid (fun w => floor_any m 4194304 w (by omega) (by omega) (by omega) (by omega))
  have CF := Lib.hid H
  unfold Dsm at hd
  obtain ⟨d1, d2, d3, d4⟩ := hd
  have ct := fun w => turned_any 1 X Y w (by omega) (by unfold Sm; omega) (by unfold Sm; omega)
  rw [(tu1 X Y).1, (tu1 X Y).2] at ct
  have CT := Lib.hid ct
  generalize m / 4194304 = f at *
  clear H ct
  go_enter Try.func133, Try.ntmps133
  go_wp2_with fail
  refine (C.out _).mono ?_
  rintro e w' ⟨rfl, rfl⟩
  go_wp2_with fail
  refine (CF.out _).mono ?_
  rintro e w1 ⟨rfl, hb_w1⟩
  have hs_w1 := hb_w1.size
  (try simp at hs_w1)
  have hz_w1_w : w.heap.size < w1.heap.size := (by have hs := hb_w1.size; (try simp at hs); omega)
  have hy_w1_w : w.heap.size < w1.heap.size + 1 := (by omega)
  have hx_w1_w : w.heap.size < w1.heap.size + 1 + 1 := (by omega)
  have hc_w1_w := fun o => hb_w1.cell (p := ⟨w.heap.size, o, none⟩) (by first | omega | (simp; done) | (simp; omega))
  have hf_w1_w := fun o => hb_w1.frozen (p := ⟨w.heap.size, o, none⟩) (by first | omega | (simp; done) | (simp; omega))
  go_wp2_with fail
  refine (CT.out _).mono ?_
  rintro e w2 ⟨rfl, hb_w2⟩
  have hs_w2 := hb_w2.size
  (try simp at hs_w2)
  have hz_w2_w : w.heap.size < w2.heap.size := (by have hs := hb_w2.size; (try simp at hs); omega)
  have hy_w2_w : w.heap.size < w2.heap.size + 1 := (by omega)
  have hx_w2_w : w.heap.size < w2.heap.size + 1 + 1 := (by omega)
  have hc_w2_w := fun o => hb_w2.cell (p := ⟨w.heap.size, o, none⟩) (by first | omega | (simp; done) | (simp; omega))
  have hf_w2_w := fun o => hb_w2.frozen (p := ⟨w.heap.size, o, none⟩) (by first | omega | (simp; done) | (simp; omega))
  go_wp2
  refine bodyPost_ret (by simp [results, Try.results133, go_sem, *]; first | done | rfl) rfl ?_
  exact ⟨rfl, (by repeat' (first | (with_reducible exact Below.refl _ _) | (with_reducible assumption) | (with_reducible refine bl_alloc ?_ _) | (with_reducible refine bl_drew ?_) | (with_reducible refine bl_drewN ?_) | (with_reducible refine bl_setCell ?_ ?_ _) | (with_reducible refine bl_call ?_ (by with_reducible assumption)) | omega | (simp; done) | (simp; omega)))⟩

set_option maxHeartbeats 1000000 in
theorem dir_d (m X Y : Int) (w : World) (h1 : -4611686018427387904 ≤ m) (h2 : m ≤ 4611686018427387904) (hc : 2097152 ≤ m - 4194304 * (m / 4194304)) (hd : Dsm X Y)
    (H : ∀ w, Calls Try.prog 133 #[.int .i64 (m - 4194304 * (m / 4194304) - 2097152)] w fun e w' => e = .returned (.agg #[.int .i64 X, .int .i64 Y]) ∧ Below w.heap.size w w') :
    Calls Try.prog 133 #[.int .i64 m] w fun e w' => e = .returned (.agg #[.int .i64 (-X), .int .i64 (-Y)]) ∧ Below w.heap.size w w' := by
  have b0 : m - 4194304 * (m / 4194304) < 4194304 := by omega
  have b1 : -4611686018427387904 - 4194304 ≤ 4194304 * (m / 4194304) := by omega
  have b2 : 4194304 * (m / 4194304) ≤ 4611686018427387904 := by omega
  have C := Lib.hid (fun w => floor_any m 4194304 w (by omega) (by omega) (by omega) (by omega))
  have CF := Lib.hid H
  unfold Dsm at hd
  obtain ⟨d1, d2, d3, d4⟩ := hd
  have ct := fun w => turned_any 2 X Y w (by omega) (by unfold Sm; omega) (by unfold Sm; omega)
  rw [(tu2 X Y).1, (tu2 X Y).2] at ct
  have CT := Lib.hid ct
  generalize m / 4194304 = f at *
  clear H ct
  go_enter Try.func133, Try.ntmps133
  go_wp2_with fail
  refine (C.out _).mono ?_
  rintro e w' ⟨rfl, rfl⟩
  go_wp2_with fail
  refine (CF.out _).mono ?_
  rintro e w1 ⟨rfl, hb_w1⟩
  have hs_w1 := hb_w1.size
  (try simp at hs_w1)
  have hz_w1_w : w.heap.size < w1.heap.size := (by have hs := hb_w1.size; (try simp at hs); omega)
  have hy_w1_w : w.heap.size < w1.heap.size + 1 := (by omega)
  have hx_w1_w : w.heap.size < w1.heap.size + 1 + 1 := (by omega)
  have hc_w1_w := fun o => hb_w1.cell (p := ⟨w.heap.size, o, none⟩) (by first | omega | (simp; done) | (simp; omega))
  have hf_w1_w := fun o => hb_w1.frozen (p := ⟨w.heap.size, o, none⟩) (by first | omega | (simp; done) | (simp; omega))
  go_wp2_with fail
  refine (CT.out _).mono ?_
  rintro e w2 ⟨rfl, hb_w2⟩
  have hs_w2 := hb_w2.size
  (try simp at hs_w2)
  have hz_w2_w : w.heap.size < w2.heap.size := (by have hs := hb_w2.size; (try simp at hs); omega)
  have hy_w2_w : w.heap.size < w2.heap.size + 1 := (by omega)
  have hx_w2_w : w.heap.size < w2.heap.size + 1 + 1 := (by omega)
  have hc_w2_w := fun o => hb_w2.cell (p := ⟨w.heap.size, o, none⟩) (by first | omega | (simp; done) | (simp; omega))
  have hf_w2_w := fun o => hb_w2.frozen (p := ⟨w.heap.size, o, none⟩) (by first | omega | (simp; done) | (simp; omega))
  go_wp2
  refine bodyPost_ret (by simp [results, Try.results133, go_sem, *]; first | done | rfl) rfl ?_
  exact ⟨rfl, (by repeat' (first | (with_reducible exact Below.refl _ _) | (with_reducible assumption) | (with_reducible refine bl_alloc ?_ _) | (with_reducible refine bl_drew ?_) | (with_reducible refine bl_drewN ?_) | (with_reducible refine bl_setCell ?_ ?_ _) | (with_reducible refine bl_call ?_ (by with_reducible assumption)) | omega | (simp; done) | (simp; omega)))⟩

theorem dir_q (m : Int) (p : Nat) (w : World) (h1 : -4611686018427387904 ≤ m) (h2 : m ≤ 4611686018427387904) (hp : (p : Int) = m % 4194304) (hc : p < 1048576) :
    Calls Try.prog 133 #[.int .i64 m] w fun e w' => e = .returned (.agg #[.int .i64 (d1X p), .int .i64 (d1Y p)]) ∧ Below w.heap.size w w' := by
  unfold d1X d1Y
  split
  · rename_i h; exact dir_b m p w h1 h2 hp h hc
  · rename_i h; exact dir_a m p w h1 h2 hp (by omega)
theorem dir_h (m : Int) (p : Nat) (w : World) (h1 : -4611686018427387904 ≤ m) (h2 : m ≤ 4611686018427387904) (hp : (p : Int) = m % 4194304) (hc : p < 2097152) :
    Calls Try.prog 133 #[.int .i64 m] w fun e w' => e = .returned (.agg #[.int .i64 (d2X p), .int .i64 (d2Y p)]) ∧ Below w.heap.size w w' := by
  unfold d2X d2Y
  split
  · rename_i h
    exact dir_c m _ _ w h1 h2 (by omega) (by omega) (d1_sm _) (fun w => dir_q _ (p - 1048576) w (by omega) (by omega) (by omega) (by omega))
  · rename_i h; exact dir_q m p w h1 h2 hp (by omega)
theorem dir_any (m : Int) (w : World) (h1 : -4611686018427387904 ≤ m) (h2 : m ≤ 4611686018427387904) :
    Calls Try.prog 133 #[.int .i64 m] w fun e w' => e = .returned (.agg #[.int .i64 (dcX m), .int .i64 (dcY m)]) ∧ Below w.heap.size w w' := by
  have hp : (plc m : Int) = m % 4194304 := by unfold plc; omega
  unfold dcX dcY d3X d3Y
  have := plc_lt m
  split
  · rename_i h
    exact dir_d m _ _ w h1 h2 (by omega) (d2_sm _) (fun w => dir_h _ (plc m - 2097152) w (by omega) (by omega) (by omega) (by omega))
  · rename_i h; exact dir_h m _ w h1 h2 hp (by omega)

/-- The radius of an arc. -/
@[irreducible] def arR (lo hi : Int) : Int := if lo = hi ∧ lo % 1048576 = 0 then 0 else 2 + -(-(11 * (hi - (lo + hi) / 2)) / 7)
@[irreducible] def arM (lo hi : Int) : Res := fin (ctX ((lo + hi) / 2)) (ctY ((lo + hi) / 2)) (arR lo hi) 0
theorem ball_res (a b c : Int) (w : World) : Calls Try.prog 100 #[.agg #[.int .i64 a, .int .i64 b, .int .i64 c]] w fun e w' => e = .returned (out (fin a b c 0)) ∧ Below w.heap.size w w' := by
  rw [fin_zero]
  by_cases h : Right a b c
  · rw [if_pos h]; exact ball_yes a b c w h.1 h.2.1 h.2.2
  · rw [if_neg h]; exact ball_no a b c w h

theorem ct_def (l : Int) : (2 * dcX l + 64) / (2 * 64) = ctX l ∧ (2 * dcY l + 64) / (2 * 64) = ctY l := by unfold ctX ctY; exact ⟨rfl, rfl⟩

set_option maxHeartbeats 2000000 in
theorem arc_zero (l : Int) (w : World) (h1 : -9007199254740992 ≤ l) (h2 : l ≤ 9007199254740992) (hz : l % 1048576 = 0) :
    Calls Try.prog 93 #[.int .i64 l, .int .i64 l] w fun e w' => e = .returned (out (arM l l)) ∧ Below w.heap.size w w' := by
  have hm : (l + l) / 2 = l := by omega
  have hR : arR l l = 0 := by unfold arR; rw [if_pos ⟨rfl, hz⟩]
  unfold arM
  rw [hm, hR]
  have c1 := ct_sm l
  have bs := dc_sm l
  unfold Dsm at bs
  obtain ⟨b1, b2, b3, b4⟩ := bs
  have CF : Hid (∀ w, Calls Try.prog 96 #[.int .i64 (l + l), .int .i64 2] w fun e w' => e = .returned (.int .i64 l) ∧ w' = w) := Lib.hid fun w => by
    have t := floor_any (l + l) 2 w (by omega) (by omega) (by omega) (by omega)
    rw [hm] at t; exact t
  have CD := Lib.hid (fun w => dir_any l w (by omega) (by omega))
  have CX : Hid (∀ w, Calls Try.prog 69 #[.int .i64 (dcX l), .int .i64 64] w fun e w' => e = .returned (.tuple #[.int .i64 (ctX l), .bool (dcX l % 64 != 0)]) ∧ Below w.heap.size w w') := Lib.hid fun w => by
    have t := drew_bel (rounded_any (dcX l) 64 w (by omega) (by omega) (by omega) (by omega))
    rw [(ct_def l).1] at t; exact t
  have CY : Hid (∀ w, Calls Try.prog 69 #[.int .i64 (dcY l), .int .i64 64] w fun e w' => e = .returned (.tuple #[.int .i64 (ctY l), .bool (dcY l % 64 != 0)]) ∧ Below w.heap.size w w') := Lib.hid fun w => by
    have t := drew_bel (rounded_any (dcY l) 64 w (by omega) (by omega) (by omega) (by omega))
    rw [(ct_def l).2] at t; exact t
  have CC := Lib.hid (fun w => ceil_any 0 7 w (by omega) (by omega) (by omega) (by omega))
  have CB := Lib.hid (fun w => ball_res (ctX l) (ctY l) 0 w)
  have t1 : (l == l) = true := by simp
  have t2 : (l.tmod 1048576 == 0) = true := by
    have := tmod_ne l 1048576
    simp only [bne, hz] at this
    simpa using this
  rw [out_quad] at CB ⊢
  clear hz hm hR c1
  generalize fin (ctX l) (ctY l) 0 0 = F at *
  generalize ctX l = X at *
  generalize ctY l = Y at *
  generalize (dcX l % 64 != 0) = U at *
  generalize (dcY l % 64 != 0) = V at *
  generalize dcX l = x at *
  generalize dcY l = y at *
  go_enter Try.func93, Try.ntmps93
  go_wp2_with fail
  refine (CF.out _).mono ?_
  rintro e w' ⟨rfl, rfl⟩
  go_wp2_with fail
  refine (CD.out _).mono ?_
  rintro e w1 ⟨rfl, hb_w1⟩
  have hs_w1 := hb_w1.size
  (try simp at hs_w1)
  have hz_w1_w : w.heap.size < w1.heap.size := (by have hs := hb_w1.size; (try simp at hs); omega)
  have hy_w1_w : w.heap.size < w1.heap.size + 1 := (by omega)
  have hx_w1_w : w.heap.size < w1.heap.size + 1 + 1 := (by omega)
  have hc_w1_w := fun o => hb_w1.cell (p := ⟨w.heap.size, o, none⟩) (by first | omega | (simp; done) | (simp; omega))
  have hf_w1_w := fun o => hb_w1.frozen (p := ⟨w.heap.size, o, none⟩) (by first | omega | (simp; done) | (simp; omega))
  go_wp2_with fail
  refine (CX.out _).mono ?_
  rintro e w2 ⟨rfl, hb_w2⟩
  have hs_w2 := hb_w2.size
  (try simp at hs_w2)
  have hz_w2_w : w.heap.size < w2.heap.size := (by have hs := hb_w2.size; (try simp at hs); omega)
  have hy_w2_w : w.heap.size < w2.heap.size + 1 := (by omega)
  have hx_w2_w : w.heap.size < w2.heap.size + 1 + 1 := (by omega)
  have hc_w2_w := fun o => hb_w2.cell (p := ⟨w.heap.size, o, none⟩) (by first | omega | (simp; done) | (simp; omega))
  have hf_w2_w := fun o => hb_w2.frozen (p := ⟨w.heap.size, o, none⟩) (by first | omega | (simp; done) | (simp; omega))
  have hz_w2_w1 : w1.heap.size < w2.heap.size := (by have hs := hb_w2.size; (try simp at hs); omega)
  have hy_w2_w1 : w1.heap.size < w2.heap.size + 1 := (by omega)
  have hx_w2_w1 : w1.heap.size < w2.heap.size + 1 + 1 := (by omega)
  have hc_w2_w1 := fun o => hb_w2.cell (p := ⟨w1.heap.size, o, none⟩) (by first | omega | (simp; done) | (simp; omega))
  have hf_w2_w1 := fun o => hb_w2.frozen (p := ⟨w1.heap.size, o, none⟩) (by first | omega | (simp; done) | (simp; omega))
  go_wp2_with fail
  refine (CY.out _).mono ?_
  rintro e w3 ⟨rfl, hb_w3⟩
  have hs_w3 := hb_w3.size
  (try simp at hs_w3)
  have hz_w3_w : w.heap.size < w3.heap.size := (by have hs := hb_w3.size; (try simp at hs); omega)
  have hy_w3_w : w.heap.size < w3.heap.size + 1 := (by omega)
  have hx_w3_w : w.heap.size < w3.heap.size + 1 + 1 := (by omega)
  have hc_w3_w := fun o => hb_w3.cell (p := ⟨w.heap.size, o, none⟩) (by first | omega | (simp; done) | (simp; omega))
  have hf_w3_w := fun o => hb_w3.frozen (p := ⟨w.heap.size, o, none⟩) (by first | omega | (simp; done) | (simp; omega))
  go_wp2_with fail
  refine (CC.out _).mono ?_
  rintro e w' ⟨rfl, rfl⟩
  go_wp2_with fail
  refine (CB.out _).mono ?_
  rintro e w4 ⟨rfl, hb_w4⟩
  have hs_w4 := hb_w4.size
  (try simp at hs_w4)
  have hz_w4_w : w.heap.size < w4.heap.size := (by have hs := hb_w4.size; (try simp at hs); omega)
  have hy_w4_w : w.heap.size < w4.heap.size + 1 := (by omega)
  have hx_w4_w : w.heap.size < w4.heap.size + 1 + 1 := (by omega)
  have hc_w4_w := fun o => hb_w4.cell (p := ⟨w.heap.size, o, none⟩) (by first | omega | (simp; done) | (simp; omega))
  have hf_w4_w := fun o => hb_w4.frozen (p := ⟨w.heap.size, o, none⟩) (by first | omega | (simp; done) | (simp; omega))
  go_wp2
  refine bodyPost_ret (by simp [results, Try.results93, go_sem, *]; first | done | rfl) rfl ?_
  exact ⟨rfl, (by repeat' (first | (with_reducible exact Below.refl _ _) | (with_reducible assumption) | (with_reducible refine bl_alloc ?_ _) | (with_reducible refine bl_drew ?_) | (with_reducible refine bl_drewN ?_) | (with_reducible refine bl_setCell ?_ ?_ _) | (with_reducible refine bl_call ?_ (by with_reducible assumption)) | omega | (simp; done) | (simp; omega)))⟩

set_option maxHeartbeats 2000000 in
theorem arc_lt (l h : Int) (w : World) (h1 : -9007199254740992 ≤ l) (h2 : h ≤ 9007199254740992) (hz : l < h) (hlt : h - l ≤ 9007199254740992) :
    Calls Try.prog 93 #[.int .i64 l, .int .i64 h] w fun e w' => e = .returned (out (arM l h)) ∧ Below w.heap.size w w' := by
  obtain ⟨m, hm⟩ : ∃ m, (l + h) / 2 = m := ⟨_, rfl⟩
  have hR : arR l h = 2 + -(-(11 * (h - m)) / 7) := by unfold arR; rw [if_neg (by omega), hm]
  unfold arM
  rw [hm, hR]
  have m1 : l ≤ m := by omega
  have m2 : m ≤ h := by omega
  have c1 := ct_sm m
  have bs := dc_sm m
  unfold Dsm at bs
  obtain ⟨b1, b2, b3, b4⟩ := bs
  have CF : Hid (∀ w, Calls Try.prog 96 #[.int .i64 (l + h), .int .i64 2] w fun e w' => e = .returned (.int .i64 m) ∧ w' = w) := Lib.hid fun w => by
    have t := floor_any (l + h) 2 w (by omega) (by omega) (by omega) (by omega)
    rw [hm] at t; exact t
  have CD := Lib.hid (fun w => dir_any m w (by omega) (by omega))
  have CX : Hid (∀ w, Calls Try.prog 69 #[.int .i64 (dcX m), .int .i64 64] w fun e w' => e = .returned (.tuple #[.int .i64 (ctX m), .bool (dcX m % 64 != 0)]) ∧ Below w.heap.size w w') := Lib.hid fun w => by
    have t := drew_bel (rounded_any (dcX m) 64 w (by omega) (by omega) (by omega) (by omega))
    rw [(ct_def m).1] at t; exact t
  have CY : Hid (∀ w, Calls Try.prog 69 #[.int .i64 (dcY m), .int .i64 64] w fun e w' => e = .returned (.tuple #[.int .i64 (ctY m), .bool (dcY m % 64 != 0)]) ∧ Below w.heap.size w w') := Lib.hid fun w => by
    have t := drew_bel (rounded_any (dcY m) 64 w (by omega) (by omega) (by omega) (by omega))
    rw [(ct_def m).2] at t; exact t
  have CC := Lib.hid (fun w => ceil_any (11 * (h - m)) 7 w (by omega) (by omega) (by omega) (by omega))
  have CB := Lib.hid (fun w => ball_res (ctX m) (ctY m) (2 + -(-(11 * (h - m)) / 7)) w)
  have k0 : 0 ≤ -(-(11 * (h - m)) / 7) := by omega
  have k1 : -(-(11 * (h - m)) / 7) ≤ 36028797018963968 := by omega
  have t1 : (l == h) = false := by simp; omega
  rw [out_quad] at CB ⊢
  clear hz hm hR c1 hlt
  generalize fin (ctX m) (ctY m) (2 + -(-(11 * (h - m)) / 7)) 0 = F at *
  generalize ctX m = X at *
  generalize ctY m = Y at *
  generalize (dcX m % 64 != 0) = U at *
  generalize (dcY m % 64 != 0) = V at *
  generalize dcX m = x at *
  generalize dcY m = y at *
  generalize -(-(11 * (h - m)) / 7) = R at *
  go_enter Try.func93, Try.ntmps93
  go_wp2_with fail
  refine (CF.out _).mono ?_
  rintro e w' ⟨rfl, rfl⟩
  go_wp2_with fail
  refine (CD.out _).mono ?_
  rintro e w1 ⟨rfl, hb_w1⟩
  have hs_w1 := hb_w1.size
  (try simp at hs_w1)
  have hz_w1_w : w.heap.size < w1.heap.size := (by have hs := hb_w1.size; (try simp at hs); omega)
  have hy_w1_w : w.heap.size < w1.heap.size + 1 := (by omega)
  have hx_w1_w : w.heap.size < w1.heap.size + 1 + 1 := (by omega)
  have hc_w1_w := fun o => hb_w1.cell (p := ⟨w.heap.size, o, none⟩) (by first | omega | (simp; done) | (simp; omega))
  have hf_w1_w := fun o => hb_w1.frozen (p := ⟨w.heap.size, o, none⟩) (by first | omega | (simp; done) | (simp; omega))
  go_wp2_with fail
  refine (CX.out _).mono ?_
  rintro e w2 ⟨rfl, hb_w2⟩
  have hs_w2 := hb_w2.size
  (try simp at hs_w2)
  have hz_w2_w : w.heap.size < w2.heap.size := (by have hs := hb_w2.size; (try simp at hs); omega)
  have hy_w2_w : w.heap.size < w2.heap.size + 1 := (by omega)
  have hx_w2_w : w.heap.size < w2.heap.size + 1 + 1 := (by omega)
  have hc_w2_w := fun o => hb_w2.cell (p := ⟨w.heap.size, o, none⟩) (by first | omega | (simp; done) | (simp; omega))
  have hf_w2_w := fun o => hb_w2.frozen (p := ⟨w.heap.size, o, none⟩) (by first | omega | (simp; done) | (simp; omega))
  have hz_w2_w1 : w1.heap.size < w2.heap.size := (by have hs := hb_w2.size; (try simp at hs); omega)
  have hy_w2_w1 : w1.heap.size < w2.heap.size + 1 := (by omega)
  have hx_w2_w1 : w1.heap.size < w2.heap.size + 1 + 1 := (by omega)
  have hc_w2_w1 := fun o => hb_w2.cell (p := ⟨w1.heap.size, o, none⟩) (by first | omega | (simp; done) | (simp; omega))
  have hf_w2_w1 := fun o => hb_w2.frozen (p := ⟨w1.heap.size, o, none⟩) (by first | omega | (simp; done) | (simp; omega))
  go_wp2_with fail
  refine (CY.out _).mono ?_
  rintro e w3 ⟨rfl, hb_w3⟩
  have hs_w3 := hb_w3.size
  (try simp at hs_w3)
  have hz_w3_w : w.heap.size < w3.heap.size := (by have hs := hb_w3.size; (try simp at hs); omega)
  have hy_w3_w : w.heap.size < w3.heap.size + 1 := (by omega)
  have hx_w3_w : w.heap.size < w3.heap.size + 1 + 1 := (by omega)
  have hc_w3_w := fun o => hb_w3.cell (p := ⟨w.heap.size, o, none⟩) (by first | omega | (simp; done) | (simp; omega))
  have hf_w3_w := fun o => hb_w3.frozen (p := ⟨w.heap.size, o, none⟩) (by first | omega | (simp; done) | (simp; omega))
  go_wp2_with fail
  refine (CC.out _).mono ?_
  rintro e w' ⟨rfl, rfl⟩
  go_wp2_with fail
  refine (CB.out _).mono ?_
  rintro e w4 ⟨rfl, hb_w4⟩
  have hs_w4 := hb_w4.size
  (try simp at hs_w4)
  have hz_w4_w : w.heap.size < w4.heap.size := (by have hs := hb_w4.size; (try simp at hs); omega)
  have hy_w4_w : w.heap.size < w4.heap.size + 1 := (by omega)
  have hx_w4_w : w.heap.size < w4.heap.size + 1 + 1 := (by omega)
  have hc_w4_w := fun o => hb_w4.cell (p := ⟨w.heap.size, o, none⟩) (by first | omega | (simp; done) | (simp; omega))
  have hf_w4_w := fun o => hb_w4.frozen (p := ⟨w.heap.size, o, none⟩) (by first | omega | (simp; done) | (simp; omega))
  go_wp2
  refine bodyPost_ret (by simp [results, Try.results93, go_sem, *]; first | done | rfl) rfl ?_
  exact ⟨rfl, (by repeat' (first | (with_reducible exact Below.refl _ _) | (with_reducible assumption) | (with_reducible refine bl_alloc ?_ _) | (with_reducible refine bl_drew ?_) | (with_reducible refine bl_drewN ?_) | (with_reducible refine bl_setCell ?_ ?_ _) | (with_reducible refine bl_call ?_ (by with_reducible assumption)) | omega | (simp; done) | (simp; omega)))⟩

set_option maxHeartbeats 2000000 in
theorem arc_eq (l : Int) (w : World) (h1 : -9007199254740992 ≤ l) (h2 : l ≤ 9007199254740992) (hz : ¬ l % 1048576 = 0) :
    Calls Try.prog 93 #[.int .i64 l, .int .i64 l] w fun e w' => e = .returned (out (arM l l)) ∧ Below w.heap.size w w' := by
  have hm : (l + l) / 2 = l := by omega
  have hR : arR l l = 2 := by unfold arR; rw [if_neg (fun k => hz k.2), hm]; omega
  unfold arM
  rw [hm, hR]
  have c1 := ct_sm l
  have bs := dc_sm l
  unfold Dsm at bs
  obtain ⟨b1, b2, b3, b4⟩ := bs
  have CF : Hid (∀ w, Calls Try.prog 96 #[.int .i64 (l + l), .int .i64 2] w fun e w' => e = .returned (.int .i64 l) ∧ w' = w) := Lib.hid fun w => by
    have t := floor_any (l + l) 2 w (by omega) (by omega) (by omega) (by omega)
    rw [hm] at t; exact t
  have CD := Lib.hid (fun w => dir_any l w (by omega) (by omega))
  have CX : Hid (∀ w, Calls Try.prog 69 #[.int .i64 (dcX l), .int .i64 64] w fun e w' => e = .returned (.tuple #[.int .i64 (ctX l), .bool (dcX l % 64 != 0)]) ∧ Below w.heap.size w w') := Lib.hid fun w => by
    have t := drew_bel (rounded_any (dcX l) 64 w (by omega) (by omega) (by omega) (by omega))
    rw [(ct_def l).1] at t; exact t
  have CY : Hid (∀ w, Calls Try.prog 69 #[.int .i64 (dcY l), .int .i64 64] w fun e w' => e = .returned (.tuple #[.int .i64 (ctY l), .bool (dcY l % 64 != 0)]) ∧ Below w.heap.size w w') := Lib.hid fun w => by
    have t := drew_bel (rounded_any (dcY l) 64 w (by omega) (by omega) (by omega) (by omega))
    rw [(ct_def l).2] at t; exact t
  have CC := Lib.hid (fun w => ceil_any 0 7 w (by omega) (by omega) (by omega) (by omega))
  have CB := Lib.hid (fun w => ball_res (ctX l) (ctY l) 2 w)
  have t1 : (l == l) = true := by simp
  have t2 : (l.tmod 1048576 == 0) = false := by
    have := tmod_ne l 1048576
    have e : (l % 1048576 != 0) = true := by simpa using hz
    rw [e] at this
    simpa [bne] using this
  rw [out_quad] at CB ⊢
  clear hz hm hR c1
  generalize fin (ctX l) (ctY l) 2 0 = F at *
  generalize ctX l = X at *
  generalize ctY l = Y at *
  generalize (dcX l % 64 != 0) = U at *
  generalize (dcY l % 64 != 0) = V at *
  generalize dcX l = x at *
  generalize dcY l = y at *
  go_enter Try.func93, Try.ntmps93
  go_wp2_with fail
  refine (CF.out _).mono ?_
  rintro e w' ⟨rfl, rfl⟩
  go_wp2_with fail
  refine (CD.out _).mono ?_
  rintro e w1 ⟨rfl, hb_w1⟩
  have hs_w1 := hb_w1.size
  (try simp at hs_w1)
  have hz_w1_w : w.heap.size < w1.heap.size := (by have hs := hb_w1.size; (try simp at hs); omega)
  have hy_w1_w : w.heap.size < w1.heap.size + 1 := (by omega)
  have hx_w1_w : w.heap.size < w1.heap.size + 1 + 1 := (by omega)
  have hc_w1_w := fun o => hb_w1.cell (p := ⟨w.heap.size, o, none⟩) (by first | omega | (simp; done) | (simp; omega))
  have hf_w1_w := fun o => hb_w1.frozen (p := ⟨w.heap.size, o, none⟩) (by first | omega | (simp; done) | (simp; omega))
  go_wp2_with fail
  refine (CX.out _).mono ?_
  rintro e w2 ⟨rfl, hb_w2⟩
  have hs_w2 := hb_w2.size
  (try simp at hs_w2)
  have hz_w2_w : w.heap.size < w2.heap.size := (by have hs := hb_w2.size; (try simp at hs); omega)
  have hy_w2_w : w.heap.size < w2.heap.size + 1 := (by omega)
  have hx_w2_w : w.heap.size < w2.heap.size + 1 + 1 := (by omega)
  have hc_w2_w := fun o => hb_w2.cell (p := ⟨w.heap.size, o, none⟩) (by first | omega | (simp; done) | (simp; omega))
  have hf_w2_w := fun o => hb_w2.frozen (p := ⟨w.heap.size, o, none⟩) (by first | omega | (simp; done) | (simp; omega))
  have hz_w2_w1 : w1.heap.size < w2.heap.size := (by have hs := hb_w2.size; (try simp at hs); omega)
  have hy_w2_w1 : w1.heap.size < w2.heap.size + 1 := (by omega)
  have hx_w2_w1 : w1.heap.size < w2.heap.size + 1 + 1 := (by omega)
  have hc_w2_w1 := fun o => hb_w2.cell (p := ⟨w1.heap.size, o, none⟩) (by first | omega | (simp; done) | (simp; omega))
  have hf_w2_w1 := fun o => hb_w2.frozen (p := ⟨w1.heap.size, o, none⟩) (by first | omega | (simp; done) | (simp; omega))
  go_wp2_with fail
  refine (CY.out _).mono ?_
  rintro e w3 ⟨rfl, hb_w3⟩
  have hs_w3 := hb_w3.size
  (try simp at hs_w3)
  have hz_w3_w : w.heap.size < w3.heap.size := (by have hs := hb_w3.size; (try simp at hs); omega)
  have hy_w3_w : w.heap.size < w3.heap.size + 1 := (by omega)
  have hx_w3_w : w.heap.size < w3.heap.size + 1 + 1 := (by omega)
  have hc_w3_w := fun o => hb_w3.cell (p := ⟨w.heap.size, o, none⟩) (by first | omega | (simp; done) | (simp; omega))
  have hf_w3_w := fun o => hb_w3.frozen (p := ⟨w.heap.size, o, none⟩) (by first | omega | (simp; done) | (simp; omega))
  go_wp2_with fail
  refine (CC.out _).mono ?_
  rintro e w' ⟨rfl, rfl⟩
  go_wp2_with fail
  refine (CB.out _).mono ?_
  rintro e w4 ⟨rfl, hb_w4⟩
  have hs_w4 := hb_w4.size
  (try simp at hs_w4)
  have hz_w4_w : w.heap.size < w4.heap.size := (by have hs := hb_w4.size; (try simp at hs); omega)
  have hy_w4_w : w.heap.size < w4.heap.size + 1 := (by omega)
  have hx_w4_w : w.heap.size < w4.heap.size + 1 + 1 := (by omega)
  have hc_w4_w := fun o => hb_w4.cell (p := ⟨w.heap.size, o, none⟩) (by first | omega | (simp; done) | (simp; omega))
  have hf_w4_w := fun o => hb_w4.frozen (p := ⟨w.heap.size, o, none⟩) (by first | omega | (simp; done) | (simp; omega))
  go_wp2
  refine bodyPost_ret (by simp [results, Try.results93, go_sem, *]; first | done | rfl) rfl ?_
  exact ⟨rfl, (by repeat' (first | (with_reducible exact Below.refl _ _) | (with_reducible assumption) | (with_reducible refine bl_alloc ?_ _) | (with_reducible refine bl_drew ?_) | (with_reducible refine bl_drewN ?_) | (with_reducible refine bl_setCell ?_ ?_ _) | (with_reducible refine bl_call ?_ (by with_reducible assumption)) | omega | (simp; done) | (simp; omega)))⟩

theorem arc_any (l h : Int) (w : World) (h1 : -9007199254740992 ≤ l) (h2 : h ≤ 9007199254740992) (h3 : l ≤ h) (h4 : h - l ≤ 9007199254740992) :
    Calls Try.prog 93 #[.int .i64 l, .int .i64 h] w fun e w' => e = .returned (out (arM l h)) ∧ Below w.heap.size w w' := by
  rcases Int.lt_or_le l h with c | c
  · exact arc_lt l h w h1 h2 c h4
  · obtain rfl : l = h := by omega
    by_cases hz : l % 1048576 = 0
    · exact arc_zero l w h1 h2 hz
    · exact arc_eq l w h1 h2 hz
end Go.Proofs.Ytjgmjnjpgdadhaa
