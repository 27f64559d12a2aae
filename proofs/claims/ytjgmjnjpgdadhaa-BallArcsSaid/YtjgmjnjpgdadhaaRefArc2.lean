/- The walks of the reference's directions, arcs and unit numbers. -/
import Derived.Test.YtjgmjnjpgdadhaaRefArc
namespace Go.Proofs.Ytjgmjnjpgdadhaa
open Go.RowKit

theorem pMod (m : Int) (p : Nat) (h1 : -4611686018427387904 ≤ m) (h2 : m ≤ 4611686018427387904) (hp : (p : Int) = m % 4194304) :
    Hid (∀ w, Calls Try.prog 98 #[.int .i64 m, .int .i64 4194304] w fun e w' => e = .returned (.int .i64 p) ∧ w' = w) := Lib.hid fun w => by
  have t := bMod_any m 4194304 w (by omega) (by omega) (by omega) (by omega)
  rw [← hp] at t; exact t

set_option maxHeartbeats 1000000 in
theorem rdir_b (m : Int) (p : Nat) (w : World) (h1 : -4611686018427387904 ≤ m) (h2 : m ≤ 4611686018427387904) (hp : (p : Int) = m % 4194304) (hc : 524288 < p) (hc2 : p < 1048576) :
    Calls Try.prog 97 #[.int .i64 m] w fun e w' => e = .returned (.agg #[.int .i64 (fstY (1048576 - p)), .int .i64 (fstX (1048576 - p))]) ∧ Below w.heap.size w w' := by
  have CM := pMod m p h1 h2 hp
  have cd := fun w => rdir_a (1048576 - p) (1048576 - p) w (by omega) (by omega) (by omega) (by omega)
  have CD := Lib.hid cd
  have c1 : decide ((2097152 : Int) ≤ p) = false := by simp; omega
  have c2 : decide ((1048576 : Int) ≤ p) = false := by simp; omega
  have c3 : decide ((524288 : Int) < p) = true := by simp; omega
  have c4 : (p : Int) < 1048576 := by omega
  have c5 : (0 : Int) ≤ p := by omega
  clear cd h1 h2 hp hc hc2
  generalize fstX (1048576 - p) = X at *
  generalize fstY (1048576 - p) = Y at *
  go_enter Try.func97, Try.ntmps97
  go_wp2_with fail
  refine (CM.out _).mono ?_
  rintro e w' ⟨rfl, rfl⟩
  go_wp2_with fail
  refine (CD.out _).mono ?_
  rintro e w1 ⟨rfl, hb_w1⟩
  have hs_w1 := hb_w1.size
  (try simp at hs_w1)
  have hz_w1_w : w.heap.size < w1.heap.size := (by have hs := hb_w1.size; (try simp at hs); omega)
  have hy_w1_w : w.heap.size < w1.heap.size + 1 := (by omega)
  have hx_w1_w : w.heap.size < w1.heap.size + 1 + 1 := (by omega)
  have hc_w1_w := fun o => hb_w1.cell (p := ⟨w.heap.size, o, none⟩) (by first | omega | (simp; done) | (simp; omega))
  have hf_w1_w := fun o => hb_w1.frozen (p := ⟨w.heap.size, o, none⟩) (by first | omega | (simp; done) | (simp; omega))
  go_wp2
  refine bodyPost_ret (by simp [results, Try.results97, go_sem, *]; first | done | rfl) rfl ?_
  exact ⟨rfl, (by repeat' (first | (with_reducible exact Below.refl _ _) | (with_reducible assumption) | (with_reducible refine bl_alloc ?_ _) | (with_reducible refine bl_drew ?_) | (with_reducible refine bl_drewN ?_) | (with_reducible refine bl_setCell ?_ ?_ _) | (with_reducible refine bl_call ?_ (by with_reducible assumption)) | omega | (simp; done) | (simp; omega)))⟩

set_option maxHeartbeats 1000000 in
theorem rdir_c (m X Y : Int) (p : Nat) (w : World) (h1 : -4611686018427387904 ≤ m) (h2 : m ≤ 4611686018427387904) (hp : (p : Int) = m % 4194304) (hc : 1048576 ≤ p) (hc2 : p < 2097152) (hd : Dsm X Y)
    (H : ∀ w, Calls Try.prog 97 #[.int .i64 ((p : Int) - 1048576)] w fun e w' => e = .returned (.agg #[.int .i64 X, .int .i64 Y]) ∧ Below w.heap.size w w') :
    Calls Try.prog 97 #[.int .i64 m] w fun e w' => e = .returned (.agg #[.int .i64 (-Y), .int .i64 X]) ∧ Below w.heap.size w w' := by
  have CM := pMod m p h1 h2 hp
  have CD := Lib.hid H
  have c1 : decide ((2097152 : Int) ≤ p) = false := by simp; omega
  have c2 : decide ((1048576 : Int) ≤ p) = true := by simp; omega
  have c4 : (p : Int) < 2097152 := by omega
  have c5 : (0 : Int) ≤ p := by omega
  unfold Dsm at hd
  obtain ⟨d1, d2, d3, d4⟩ := hd
  clear H h1 h2 hp hc hc2
  go_enter Try.func97, Try.ntmps97
  go_wp2_with fail
  refine (CM.out _).mono ?_
  rintro e w' ⟨rfl, rfl⟩
  go_wp2_with fail
  refine (CD.out _).mono ?_
  rintro e w1 ⟨rfl, hb_w1⟩
  have hs_w1 := hb_w1.size
  (try simp at hs_w1)
  have hz_w1_w : w.heap.size < w1.heap.size := (by have hs := hb_w1.size; (try simp at hs); omega)
  have hy_w1_w : w.heap.size < w1.heap.size + 1 := (by omega)
  have hx_w1_w : w.heap.size < w1.heap.size + 1 + 1 := (by omega)
  have hc_w1_w := fun o => hb_w1.cell (p := ⟨w.heap.size, o, none⟩) (by first | omega | (simp; done) | (simp; omega))
  have hf_w1_w := fun o => hb_w1.frozen (p := ⟨w.heap.size, o, none⟩) (by first | omega | (simp; done) | (simp; omega))
  go_wp2
  refine bodyPost_ret (by simp [results, Try.results97, go_sem, *]; first | done | rfl) rfl ?_
  exact ⟨rfl, (by repeat' (first | (with_reducible exact Below.refl _ _) | (with_reducible assumption) | (with_reducible refine bl_alloc ?_ _) | (with_reducible refine bl_drew ?_) | (with_reducible refine bl_drewN ?_) | (with_reducible refine bl_setCell ?_ ?_ _) | (with_reducible refine bl_call ?_ (by with_reducible assumption)) | omega | (simp; done) | (simp; omega)))⟩

set_option maxHeartbeats 1000000 in
theorem rdir_d (m X Y : Int) (p : Nat) (w : World) (h1 : -4611686018427387904 ≤ m) (h2 : m ≤ 4611686018427387904) (hp : (p : Int) = m % 4194304) (hc : 2097152 ≤ p) (hd : Dsm X Y)
    (H : ∀ w, Calls Try.prog 97 #[.int .i64 ((p : Int) - 2097152)] w fun e w' => e = .returned (.agg #[.int .i64 X, .int .i64 Y]) ∧ Below w.heap.size w w') :
    Calls Try.prog 97 #[.int .i64 m] w fun e w' => e = .returned (.agg #[.int .i64 (-X), .int .i64 (-Y)]) ∧ Below w.heap.size w w' := by
  have CM := pMod m p h1 h2 hp
  have CD := Lib.hid H
  have c1 : decide ((2097152 : Int) ≤ p) = true := by simp; omega
  have c4 : (p : Int) < 4194304 := by omega
  have c5 : (0 : Int) ≤ p := by omega
  unfold Dsm at hd
  obtain ⟨d1, d2, d3, d4⟩ := hd
  clear H h1 h2 hp hc
  go_enter Try.func97, Try.ntmps97
  go_wp2_with fail
  refine (CM.out _).mono ?_
  rintro e w' ⟨rfl, rfl⟩
  go_wp2_with fail
  refine (CD.out _).mono ?_
  rintro e w1 ⟨rfl, hb_w1⟩
  have hs_w1 := hb_w1.size
  (try simp at hs_w1)
  have hz_w1_w : w.heap.size < w1.heap.size := (by have hs := hb_w1.size; (try simp at hs); omega)
  have hy_w1_w : w.heap.size < w1.heap.size + 1 := (by omega)
  have hx_w1_w : w.heap.size < w1.heap.size + 1 + 1 := (by omega)
  have hc_w1_w := fun o => hb_w1.cell (p := ⟨w.heap.size, o, none⟩) (by first | omega | (simp; done) | (simp; omega))
  have hf_w1_w := fun o => hb_w1.frozen (p := ⟨w.heap.size, o, none⟩) (by first | omega | (simp; done) | (simp; omega))
  go_wp2
  refine bodyPost_ret (by simp [results, Try.results97, go_sem, *]; first | done | rfl) rfl ?_
  exact ⟨rfl, (by repeat' (first | (with_reducible exact Below.refl _ _) | (with_reducible assumption) | (with_reducible refine bl_alloc ?_ _) | (with_reducible refine bl_drew ?_) | (with_reducible refine bl_drewN ?_) | (with_reducible refine bl_setCell ?_ ?_ _) | (with_reducible refine bl_call ?_ (by with_reducible assumption)) | omega | (simp; done) | (simp; omega)))⟩

theorem rdir_q (m : Int) (p : Nat) (w : World) (h1 : -4611686018427387904 ≤ m) (h2 : m ≤ 4611686018427387904) (hp : (p : Int) = m % 4194304) (hc : p < 1048576) :
    Calls Try.prog 97 #[.int .i64 m] w fun e w' => e = .returned (.agg #[.int .i64 (d1X p), .int .i64 (d1Y p)]) ∧ Below w.heap.size w w' := by
  unfold d1X d1Y
  split
  · rename_i h; exact rdir_b m p w h1 h2 hp h hc
  · rename_i h; exact rdir_a m p w h1 h2 hp (by omega)
theorem rdir_h (m : Int) (p : Nat) (w : World) (h1 : -4611686018427387904 ≤ m) (h2 : m ≤ 4611686018427387904) (hp : (p : Int) = m % 4194304) (hc : p < 2097152) :
    Calls Try.prog 97 #[.int .i64 m] w fun e w' => e = .returned (.agg #[.int .i64 (d2X p), .int .i64 (d2Y p)]) ∧ Below w.heap.size w w' := by
  unfold d2X d2Y
  split
  · rename_i h
    exact rdir_c m _ _ p w h1 h2 hp h hc (d1_sm _) (fun w => rdir_q _ (p - 1048576) w (by omega) (by omega) (by omega) (by omega))
  · rename_i h; exact rdir_q m p w h1 h2 hp (by omega)
theorem rdir_any (m : Int) (w : World) (h1 : -4611686018427387904 ≤ m) (h2 : m ≤ 4611686018427387904) :
    Calls Try.prog 97 #[.int .i64 m] w fun e w' => e = .returned (.agg #[.int .i64 (dcX m), .int .i64 (dcY m)]) ∧ Below w.heap.size w w' := by
  have hp : (plc m : Int) = m % 4194304 := by unfold plc; omega
  unfold dcX dcY d3X d3Y
  have := plc_lt m
  split
  · rename_i h
    exact rdir_d m _ _ (plc m) w h1 h2 hp h (d2_sm _) (fun w => rdir_h _ (plc m - 2097152) w (by omega) (by omega) (by omega) (by omega))
  · rename_i h; exact rdir_h m _ w h1 h2 hp (by omega)
end Go.Proofs.Ytjgmjnjpgdadhaa
