/- The hull of two balls: the program's public function and the reference's. -/
import Derived.Test.YtjgmjnjpgdadhaaHull
namespace Go.Proofs.Ytjgmjnjpgdadhaa
open Go.RowKit

theorem huC_eq (a c : Int) : huC a c = (a + c + 1) / 2 := by unfold huC; rfl
theorem huC_bd {a c : Int} (h1 : -67108864 ≤ a) (h2 : a ≤ 67108864) (h3 : -67108864 ≤ c) (h4 : c ≤ 67108864) : -67108864 ≤ huC a c ∧ huC a c ≤ 67108864 := by unfold huC; omega
theorem huC_sh {a b r c d s : Int} (h : Right a b r) (h' : Right c d s) : Sh (huC a c - a) ∧ Sh (huC b d - b) ∧ Sh (huC a c - c) ∧ Sh (huC b d - d) := by
  obtain ⟨⟨h1, h2, h3, h4⟩, _⟩ := h
  obtain ⟨⟨h5, h6, h7, h8⟩, _⟩ := h'
  have x := huC_bd h1 h2 h5 h6
  have y := huC_bd h3 h4 h7 h8
  exact ⟨⟨by omega, by omega⟩, ⟨by omega, by omega⟩, ⟨by omega, by omega⟩, ⟨by omega, by omega⟩⟩

theorem hull1_any (a b r c d s : Int) (w : World) (h : Right a b r) (h' : Right c d s) :
    Calls Try.prog 124 #[.agg #[.int .i64 a, .int .i64 b, .int .i64 r], .agg #[.int .i64 c, .int .i64 d, .int .i64 s]] w fun e w' =>
      e = .returned (.tuple #[.agg #[.int .i64 (huC a c), .int .i64 (huC b d), .int .i64 (huR a b r c d s)], .int .i64 0]) ∧ Below w.heap.size w w' := by
  obtain ⟨s1, s2, s3, s4⟩ := huC_sh h h'
  have q1 := s1.sq s2
  have q2 := s3.sq s4
  have u1 := rtu_bd q1.1 (by omega)
  have u2 := rtu_bd q2.1 (by omega)
  unfold huR
  exact hull1_core a b r c d s _ _ _ _ w h h' (huC_eq a c) (huC_eq b d) u1.1 u1.2 u2.1 u2.2 (fun w => up_any _ _ w s1 s2) (fun w => up_any _ _ w s3 s4)

set_option maxHeartbeats 1000000 in
theorem Hull_any (x y r x' y' r' : Int) (w : World) (f1 : Flo x) (f2 : Flo y) (g1 : Flo x') (g2 : Flo y') :
    Calls Try.prog 59 #[.agg #[.complex .f64 (fl x) (fl y), .int .i64 r], .agg #[.complex .f64 (fl x') (fl y'), .int .i64 r']] w fun e w' => e = .returned (out (hullM x y r x' y' r')) ∧ Below w.heap.size w w' := by
  have hd : ∀ w, Right x y r → Right x' y' r' → Does2 124 #[] x y r x' y' r' w (.tuple #[.agg #[.int .i64 (huC x x'), .int .i64 (huC y y'), .int .i64 (huR x y r x' y' r')], .int .i64 0]) := fun w h h' w1 _ => by
    rw [Array.append_empty]
    exact hull1_any x y r x' y' r' w1 h h'
  unfold hullM
  rw [out_quad]
  go_enter Try.func59, Try.ntmps59
  go_wp2_with fail
  refine (binary_any _ x y r x' y' r' _ _ _ _ _ f1 f2 g1 g2 (enters_of Try.func124 (by kernel_rfl) rfl) (hd _)).mono ?_
  rintro e w1 ⟨rfl, hb_w1⟩
  have hs_w1 := hb_w1.size
  (try simp at hs_w1)
  have hz_w1_wp2 : w.heap.size + 1 + 1 < w1.heap.size := (by have hs := hb_w1.size; (try simp at hs); omega)
  have hy_w1_wp2 : w.heap.size + 1 + 1 < w1.heap.size + 1 := (by omega)
  have hx_w1_wp2 : w.heap.size + 1 + 1 < w1.heap.size + 1 + 1 := (by omega)
  have hc_w1_wp2 := fun o => hb_w1.cell (p := ⟨w.heap.size + 1 + 1, o, none⟩) (by first | omega | (simp; done) | (simp; omega))
  have hf_w1_wp2 := fun o => hb_w1.frozen (p := ⟨w.heap.size + 1 + 1, o, none⟩) (by first | omega | (simp; done) | (simp; omega))
  rw [out_quad]
  go_wp2
  refine bodyPost_ret (by simp [results, Try.results59, go_sem, *]; first | done | rfl) rfl ?_
  exact ⟨rfl, (by repeat' (first | (with_reducible exact Below.refl _ _) | (with_reducible assumption) | (with_reducible refine bl_alloc ?_ _) | (with_reducible refine bl_drew ?_) | (with_reducible refine bl_drewN ?_) | (with_reducible refine bl_setCell ?_ ?_ _) | (with_reducible refine bl_call ?_ (by with_reducible assumption)) | omega | (simp; done) | (simp; omega)))⟩

set_option maxHeartbeats 2000000 in
theorem rHull_core (a b r c d s X Y S T U V : Int) (res : Res) (w : World) (h : Right a b r) (h' : Right c d s) (hX : X = (a + c + 1) / 2) (hY : Y = (b + d + 1) / 2) (U0 : 0 ≤ U) (U1 : U ≤ 1073741825) (V0 : 0 ≤ V) (V1 : V ≤ 1073741825)
    (da : ∀ w, Calls Try.prog 122 #[.agg #[.int .i64 X, .int .i64 Y, .int .i64 0], .agg #[.int .i64 a, .int .i64 b, .int .i64 r]] w fun e w' => e = .returned (.int .i64 S) ∧ Below w.heap.size w w')
    (db : ∀ w, Calls Try.prog 122 #[.agg #[.int .i64 X, .int .i64 Y, .int .i64 0], .agg #[.int .i64 c, .int .i64 d, .int .i64 s]] w fun e w' => e = .returned (.int .i64 T) ∧ Below w.heap.size w w')
    (ua : ∀ w, Calls Try.prog 115 #[.int .i64 S] w fun e w' => e = .returned (.int .i64 U) ∧ w' = w)
    (ub : ∀ w, Calls Try.prog 115 #[.int .i64 T] w fun e w' => e = .returned (.int .i64 V) ∧ w' = w)
    (ck : ∀ w, Calls Try.prog 77 #[.agg #[.int .i64 X, .int .i64 Y, .int .i64 (max (U + r) (V + s))]] w fun e w' => e = .returned (outR res) ∧ Below w.heap.size w w') :
    Calls Try.prog 60 #[.agg #[.int .i64 a, .int .i64 b, .int .i64 r], .agg #[.int .i64 c, .int .i64 d, .int .i64 s]] w fun e w' => e = .returned (outR res) ∧ Below w.heap.size w w' := by
  obtain ⟨⟨h1, h2, h3, h4⟩, r0, r1⟩ := h
  obtain ⟨⟨h5, h6, h7, h8⟩, s0, s1⟩ := h'
  have fx : ∀ w, ∃ z, Calls Try.prog 73 #[.int .i64 (a + c), .int .i64 2] w fun e w' => e = .returned (.tuple #[.int .i64 X, .bool z]) ∧ w' = w := fun w => ⟨_, by
    have := bRounded_any (a + c) 2 w (by omega) (by omega) (by omega) (by omega)
    rw [show (2 * (a + c) + 2) / (2 * 2) = X by omega] at this
    exact this⟩
  have fy : ∀ w, ∃ z, Calls Try.prog 73 #[.int .i64 (b + d), .int .i64 2] w fun e w' => e = .returned (.tuple #[.int .i64 Y, .bool z]) ∧ w' = w := fun w => ⟨_, by
    have := bRounded_any (b + d) 2 w (by omega) (by omega) (by omega) (by omega)
    rw [show (2 * (b + d) + 2) / (2 * 2) = Y by omega] at this
    exact this⟩
  have bX : -67108864 ≤ X ∧ X ≤ 67108864 := by omega
  have bY : -67108864 ≤ Y ∧ Y ≤ 67108864 := by omega
  rw [outR_quad] at ck ⊢
  have FX := Lib.hid fx
  have FY := Lib.hid fy
  have DA := Lib.hid da
  have DB := Lib.hid db
  have UA := Lib.hid ua
  have UB := Lib.hid ub
  clear fx fy ua ub da db hX hY
  have hm : ∃ M, max (U + r) (V + s) = M ∧ ((U + r < V + s ∧ M = V + s) ∨ (V + s < U + r ∧ M = U + r) ∨ (U + r = V + s ∧ M = U + r)) := ⟨_, rfl, by omega⟩
  obtain ⟨M, hM, hm⟩ := hm
  rw [hM] at ck
  clear hM
  rcases hm with ⟨hm, rfl⟩ | ⟨hm, rfl⟩ | ⟨hm, rfl⟩
  · have CK := Lib.hid ck
    clear ck
    go_enter Try.func60, Try.ntmps60
    go_wp2_with fail
    obtain ⟨z1, hz⟩ := FX.out _
    refine hz.mono ?_
    clear hz
    rintro e w' ⟨rfl, rfl⟩
    go_wp2_with fail
    obtain ⟨z2, hz⟩ := FY.out _
    refine hz.mono ?_
    clear hz
    rintro e w' ⟨rfl, rfl⟩
    go_wp2_with fail
    refine calm 16 (by kernel_rfl) (by kernel_rfl) fun hG => ?_
    have hg_w := hG (w.heap.size) (by first | omega | (simp; done) | (simp; omega))
    have hg_wp1 := hG (w.heap.size + 1) (by first | omega | (simp; done) | (simp; omega))
    have hg_wp2 := hG (w.heap.size + 1 + 1) (by first | omega | (simp; done) | (simp; omega))
    have hg_wp3 := hG (w.heap.size + 1 + 1 + 1) (by first | omega | (simp; done) | (simp; omega))
    clear hG
    simp only [List.take_succ_cons, List.take_zero, List.drop_succ_cons, List.drop_zero]
    repeat (go_big_quiet_step (first | (go_at_call 122; first | with_reducible exact calm_call DA.out | with_reducible exact calm_call DB.out) | (go_at_call 115; first | with_reducible exact calm_same UA.out | with_reducible exact calm_same UB.out)))
    refine wpQuiet_nil ?_
    intro w2 hb_w2
    clear hg_w hg_wp1 hg_wp2 hg_wp3
    have hs_w2 := hb_w2.size
    (try simp at hs_w2)
    have hz_w2_w : w.heap.size < w2.heap.size := (by have hs := hb_w2.size; (try simp at hs); omega)
    have hy_w2_w : w.heap.size < w2.heap.size + 1 := (by omega)
    have hx_w2_w : w.heap.size < w2.heap.size + 1 + 1 := (by omega)
    have hc_w2_w := fun o => hb_w2.cell (p := ⟨w.heap.size, o, none⟩) (by first | omega | (simp; done) | (simp; omega))
    have hf_w2_w := fun o => hb_w2.frozen (p := ⟨w.heap.size, o, none⟩) (by first | omega | (simp; done) | (simp; omega))
    have hz_w2_wp1 : w.heap.size + 1 < w2.heap.size := (by have hs := hb_w2.size; (try simp at hs); omega)
    have hy_w2_wp1 : w.heap.size + 1 < w2.heap.size + 1 := (by omega)
    have hx_w2_wp1 : w.heap.size + 1 < w2.heap.size + 1 + 1 := (by omega)
    have hc_w2_wp1 := fun o => hb_w2.cell (p := ⟨w.heap.size + 1, o, none⟩) (by first | omega | (simp; done) | (simp; omega))
    have hf_w2_wp1 := fun o => hb_w2.frozen (p := ⟨w.heap.size + 1, o, none⟩) (by first | omega | (simp; done) | (simp; omega))
    have hz_w2_wp2 : w.heap.size + 1 + 1 < w2.heap.size := (by have hs := hb_w2.size; (try simp at hs); omega)
    have hy_w2_wp2 : w.heap.size + 1 + 1 < w2.heap.size + 1 := (by omega)
    have hx_w2_wp2 : w.heap.size + 1 + 1 < w2.heap.size + 1 + 1 := (by omega)
    have hc_w2_wp2 := fun o => hb_w2.cell (p := ⟨w.heap.size + 1 + 1, o, none⟩) (by first | omega | (simp; done) | (simp; omega))
    have hf_w2_wp2 := fun o => hb_w2.frozen (p := ⟨w.heap.size + 1 + 1, o, none⟩) (by first | omega | (simp; done) | (simp; omega))
    have hz_w2_wp3 : w.heap.size + 1 + 1 + 1 < w2.heap.size := (by have hs := hb_w2.size; (try simp at hs); omega)
    have hy_w2_wp3 : w.heap.size + 1 + 1 + 1 < w2.heap.size + 1 := (by omega)
    have hx_w2_wp3 : w.heap.size + 1 + 1 + 1 < w2.heap.size + 1 + 1 := (by omega)
    have hc_w2_wp3 := fun o => hb_w2.cell (p := ⟨w.heap.size + 1 + 1 + 1, o, none⟩) (by first | omega | (simp; done) | (simp; omega))
    have hf_w2_wp3 := fun o => hb_w2.frozen (p := ⟨w.heap.size + 1 + 1 + 1, o, none⟩) (by first | omega | (simp; done) | (simp; omega))
    go_wp2_with fail
    refine (CK.out _).mono ?_
    rintro e w3 ⟨rfl, hb_w3⟩
    have hs_w3 := hb_w3.size
    (try simp at hs_w3)
    have hz_w3_w : w.heap.size < w3.heap.size := (by have hs := hb_w3.size; (try simp at hs); omega)
    have hy_w3_w : w.heap.size < w3.heap.size + 1 := (by omega)
    have hx_w3_w : w.heap.size < w3.heap.size + 1 + 1 := (by omega)
    have hc_w3_w := fun o => hb_w3.cell (p := ⟨w.heap.size, o, none⟩) (by first | omega | (simp; done) | (simp; omega))
    have hf_w3_w := fun o => hb_w3.frozen (p := ⟨w.heap.size, o, none⟩) (by first | omega | (simp; done) | (simp; omega))
    have hz_w3_wp1 : w.heap.size + 1 < w3.heap.size := (by have hs := hb_w3.size; (try simp at hs); omega)
    have hy_w3_wp1 : w.heap.size + 1 < w3.heap.size + 1 := (by omega)
    have hx_w3_wp1 : w.heap.size + 1 < w3.heap.size + 1 + 1 := (by omega)
    have hc_w3_wp1 := fun o => hb_w3.cell (p := ⟨w.heap.size + 1, o, none⟩) (by first | omega | (simp; done) | (simp; omega))
    have hf_w3_wp1 := fun o => hb_w3.frozen (p := ⟨w.heap.size + 1, o, none⟩) (by first | omega | (simp; done) | (simp; omega))
    have hz_w3_wp2 : w.heap.size + 1 + 1 < w3.heap.size := (by have hs := hb_w3.size; (try simp at hs); omega)
    have hy_w3_wp2 : w.heap.size + 1 + 1 < w3.heap.size + 1 := (by omega)
    have hx_w3_wp2 : w.heap.size + 1 + 1 < w3.heap.size + 1 + 1 := (by omega)
    have hc_w3_wp2 := fun o => hb_w3.cell (p := ⟨w.heap.size + 1 + 1, o, none⟩) (by first | omega | (simp; done) | (simp; omega))
    have hf_w3_wp2 := fun o => hb_w3.frozen (p := ⟨w.heap.size + 1 + 1, o, none⟩) (by first | omega | (simp; done) | (simp; omega))
    go_wp2
    refine bodyPost_ret (by simp [results, Try.results60, go_sem, *]; first | done | rfl) rfl ?_
    exact ⟨rfl, (by repeat' (first | (with_reducible exact Below.refl _ _) | (with_reducible assumption) | (with_reducible refine bl_alloc ?_ _) | (with_reducible refine bl_drew ?_) | (with_reducible refine bl_drewN ?_) | (with_reducible refine bl_setCell ?_ ?_ _) | (with_reducible refine bl_call ?_ (by with_reducible assumption)) | omega | (simp; done) | (simp; omega)))⟩
  · have CK := Lib.hid ck
    clear ck
    go_enter Try.func60, Try.ntmps60
    go_wp2_with fail
    obtain ⟨z1, hz⟩ := FX.out _
    refine hz.mono ?_
    clear hz
    rintro e w' ⟨rfl, rfl⟩
    go_wp2_with fail
    obtain ⟨z2, hz⟩ := FY.out _
    refine hz.mono ?_
    clear hz
    rintro e w' ⟨rfl, rfl⟩
    go_wp2_with fail
    refine calm 16 (by kernel_rfl) (by kernel_rfl) fun hG => ?_
    have hg_w := hG (w.heap.size) (by first | omega | (simp; done) | (simp; omega))
    have hg_wp1 := hG (w.heap.size + 1) (by first | omega | (simp; done) | (simp; omega))
    have hg_wp2 := hG (w.heap.size + 1 + 1) (by first | omega | (simp; done) | (simp; omega))
    have hg_wp3 := hG (w.heap.size + 1 + 1 + 1) (by first | omega | (simp; done) | (simp; omega))
    clear hG
    simp only [List.take_succ_cons, List.take_zero, List.drop_succ_cons, List.drop_zero]
    repeat (go_big_quiet_step (first | (go_at_call 122; first | with_reducible exact calm_call DA.out | with_reducible exact calm_call DB.out) | (go_at_call 115; first | with_reducible exact calm_same UA.out | with_reducible exact calm_same UB.out)))
    refine wpQuiet_nil ?_
    intro w2 hb_w2
    clear hg_w hg_wp1 hg_wp2 hg_wp3
    have hs_w2 := hb_w2.size
    (try simp at hs_w2)
    have hz_w2_w : w.heap.size < w2.heap.size := (by have hs := hb_w2.size; (try simp at hs); omega)
    have hy_w2_w : w.heap.size < w2.heap.size + 1 := (by omega)
    have hx_w2_w : w.heap.size < w2.heap.size + 1 + 1 := (by omega)
    have hc_w2_w := fun o => hb_w2.cell (p := ⟨w.heap.size, o, none⟩) (by first | omega | (simp; done) | (simp; omega))
    have hf_w2_w := fun o => hb_w2.frozen (p := ⟨w.heap.size, o, none⟩) (by first | omega | (simp; done) | (simp; omega))
    have hz_w2_wp1 : w.heap.size + 1 < w2.heap.size := (by have hs := hb_w2.size; (try simp at hs); omega)
    have hy_w2_wp1 : w.heap.size + 1 < w2.heap.size + 1 := (by omega)
    have hx_w2_wp1 : w.heap.size + 1 < w2.heap.size + 1 + 1 := (by omega)
    have hc_w2_wp1 := fun o => hb_w2.cell (p := ⟨w.heap.size + 1, o, none⟩) (by first | omega | (simp; done) | (simp; omega))
    have hf_w2_wp1 := fun o => hb_w2.frozen (p := ⟨w.heap.size + 1, o, none⟩) (by first | omega | (simp; done) | (simp; omega))
    have hz_w2_wp2 : w.heap.size + 1 + 1 < w2.heap.size := (by have hs := hb_w2.size; (try simp at hs); omega)
    have hy_w2_wp2 : w.heap.size + 1 + 1 < w2.heap.size + 1 := (by omega)
    have hx_w2_wp2 : w.heap.size + 1 + 1 < w2.heap.size + 1 + 1 := (by omega)
    have hc_w2_wp2 := fun o => hb_w2.cell (p := ⟨w.heap.size + 1 + 1, o, none⟩) (by first | omega | (simp; done) | (simp; omega))
    have hf_w2_wp2 := fun o => hb_w2.frozen (p := ⟨w.heap.size + 1 + 1, o, none⟩) (by first | omega | (simp; done) | (simp; omega))
    have hz_w2_wp3 : w.heap.size + 1 + 1 + 1 < w2.heap.size := (by have hs := hb_w2.size; (try simp at hs); omega)
    have hy_w2_wp3 : w.heap.size + 1 + 1 + 1 < w2.heap.size + 1 := (by omega)
    have hx_w2_wp3 : w.heap.size + 1 + 1 + 1 < w2.heap.size + 1 + 1 := (by omega)
    have hc_w2_wp3 := fun o => hb_w2.cell (p := ⟨w.heap.size + 1 + 1 + 1, o, none⟩) (by first | omega | (simp; done) | (simp; omega))
    have hf_w2_wp3 := fun o => hb_w2.frozen (p := ⟨w.heap.size + 1 + 1 + 1, o, none⟩) (by first | omega | (simp; done) | (simp; omega))
    go_wp2_with fail
    refine (CK.out _).mono ?_
    rintro e w3 ⟨rfl, hb_w3⟩
    have hs_w3 := hb_w3.size
    (try simp at hs_w3)
    have hz_w3_w : w.heap.size < w3.heap.size := (by have hs := hb_w3.size; (try simp at hs); omega)
    have hy_w3_w : w.heap.size < w3.heap.size + 1 := (by omega)
    have hx_w3_w : w.heap.size < w3.heap.size + 1 + 1 := (by omega)
    have hc_w3_w := fun o => hb_w3.cell (p := ⟨w.heap.size, o, none⟩) (by first | omega | (simp; done) | (simp; omega))
    have hf_w3_w := fun o => hb_w3.frozen (p := ⟨w.heap.size, o, none⟩) (by first | omega | (simp; done) | (simp; omega))
    have hz_w3_wp1 : w.heap.size + 1 < w3.heap.size := (by have hs := hb_w3.size; (try simp at hs); omega)
    have hy_w3_wp1 : w.heap.size + 1 < w3.heap.size + 1 := (by omega)
    have hx_w3_wp1 : w.heap.size + 1 < w3.heap.size + 1 + 1 := (by omega)
    have hc_w3_wp1 := fun o => hb_w3.cell (p := ⟨w.heap.size + 1, o, none⟩) (by first | omega | (simp; done) | (simp; omega))
    have hf_w3_wp1 := fun o => hb_w3.frozen (p := ⟨w.heap.size + 1, o, none⟩) (by first | omega | (simp; done) | (simp; omega))
    have hz_w3_wp2 : w.heap.size + 1 + 1 < w3.heap.size := (by have hs := hb_w3.size; (try simp at hs); omega)
    have hy_w3_wp2 : w.heap.size + 1 + 1 < w3.heap.size + 1 := (by omega)
    have hx_w3_wp2 : w.heap.size + 1 + 1 < w3.heap.size + 1 + 1 := (by omega)
    have hc_w3_wp2 := fun o => hb_w3.cell (p := ⟨w.heap.size + 1 + 1, o, none⟩) (by first | omega | (simp; done) | (simp; omega))
    have hf_w3_wp2 := fun o => hb_w3.frozen (p := ⟨w.heap.size + 1 + 1, o, none⟩) (by first | omega | (simp; done) | (simp; omega))
    go_wp2
    refine bodyPost_ret (by simp [results, Try.results60, go_sem, *]; first | done | rfl) rfl ?_
    exact ⟨rfl, (by repeat' (first | (with_reducible exact Below.refl _ _) | (with_reducible assumption) | (with_reducible refine bl_alloc ?_ _) | (with_reducible refine bl_drew ?_) | (with_reducible refine bl_drewN ?_) | (with_reducible refine bl_setCell ?_ ?_ _) | (with_reducible refine bl_call ?_ (by with_reducible assumption)) | omega | (simp; done) | (simp; omega)))⟩
  · obtain rfl : V = U + r - s := by omega
    have e0 : U + r - s + s = U + r := by omega
    have CK := Lib.hid ck
    clear ck hm
    go_enter Try.func60, Try.ntmps60
    go_wp2_with fail
    obtain ⟨z1, hz⟩ := FX.out _
    refine hz.mono ?_
    clear hz
    rintro e w' ⟨rfl, rfl⟩
    go_wp2_with fail
    obtain ⟨z2, hz⟩ := FY.out _
    refine hz.mono ?_
    clear hz
    rintro e w' ⟨rfl, rfl⟩
    go_wp2_with fail
    refine calm 16 (by kernel_rfl) (by kernel_rfl) fun hG => ?_
    have hg_w := hG (w.heap.size) (by first | omega | (simp; done) | (simp; omega))
    have hg_wp1 := hG (w.heap.size + 1) (by first | omega | (simp; done) | (simp; omega))
    have hg_wp2 := hG (w.heap.size + 1 + 1) (by first | omega | (simp; done) | (simp; omega))
    have hg_wp3 := hG (w.heap.size + 1 + 1 + 1) (by first | omega | (simp; done) | (simp; omega))
    clear hG
    simp only [List.take_succ_cons, List.take_zero, List.drop_succ_cons, List.drop_zero]
    repeat (go_big_quiet_step (first | (go_at_call 122; first | with_reducible exact calm_call DA.out | with_reducible exact calm_call DB.out) | (go_at_call 115; first | with_reducible exact calm_same UA.out | with_reducible exact calm_same UB.out)))
    refine wpQuiet_nil ?_
    intro w2 hb_w2
    clear hg_w hg_wp1 hg_wp2 hg_wp3
    have hs_w2 := hb_w2.size
    (try simp at hs_w2)
    have hz_w2_w : w.heap.size < w2.heap.size := (by have hs := hb_w2.size; (try simp at hs); omega)
    have hy_w2_w : w.heap.size < w2.heap.size + 1 := (by omega)
    have hx_w2_w : w.heap.size < w2.heap.size + 1 + 1 := (by omega)
    have hc_w2_w := fun o => hb_w2.cell (p := ⟨w.heap.size, o, none⟩) (by first | omega | (simp; done) | (simp; omega))
    have hf_w2_w := fun o => hb_w2.frozen (p := ⟨w.heap.size, o, none⟩) (by first | omega | (simp; done) | (simp; omega))
    have hz_w2_wp1 : w.heap.size + 1 < w2.heap.size := (by have hs := hb_w2.size; (try simp at hs); omega)
    have hy_w2_wp1 : w.heap.size + 1 < w2.heap.size + 1 := (by omega)
    have hx_w2_wp1 : w.heap.size + 1 < w2.heap.size + 1 + 1 := (by omega)
    have hc_w2_wp1 := fun o => hb_w2.cell (p := ⟨w.heap.size + 1, o, none⟩) (by first | omega | (simp; done) | (simp; omega))
    have hf_w2_wp1 := fun o => hb_w2.frozen (p := ⟨w.heap.size + 1, o, none⟩) (by first | omega | (simp; done) | (simp; omega))
    have hz_w2_wp2 : w.heap.size + 1 + 1 < w2.heap.size := (by have hs := hb_w2.size; (try simp at hs); omega)
    have hy_w2_wp2 : w.heap.size + 1 + 1 < w2.heap.size + 1 := (by omega)
    have hx_w2_wp2 : w.heap.size + 1 + 1 < w2.heap.size + 1 + 1 := (by omega)
    have hc_w2_wp2 := fun o => hb_w2.cell (p := ⟨w.heap.size + 1 + 1, o, none⟩) (by first | omega | (simp; done) | (simp; omega))
    have hf_w2_wp2 := fun o => hb_w2.frozen (p := ⟨w.heap.size + 1 + 1, o, none⟩) (by first | omega | (simp; done) | (simp; omega))
    have hz_w2_wp3 : w.heap.size + 1 + 1 + 1 < w2.heap.size := (by have hs := hb_w2.size; (try simp at hs); omega)
    have hy_w2_wp3 : w.heap.size + 1 + 1 + 1 < w2.heap.size + 1 := (by omega)
    have hx_w2_wp3 : w.heap.size + 1 + 1 + 1 < w2.heap.size + 1 + 1 := (by omega)
    have hc_w2_wp3 := fun o => hb_w2.cell (p := ⟨w.heap.size + 1 + 1 + 1, o, none⟩) (by first | omega | (simp; done) | (simp; omega))
    have hf_w2_wp3 := fun o => hb_w2.frozen (p := ⟨w.heap.size + 1 + 1 + 1, o, none⟩) (by first | omega | (simp; done) | (simp; omega))
    go_wp2_with fail
    refine (CK.out _).mono ?_
    rintro e w3 ⟨rfl, hb_w3⟩
    have hs_w3 := hb_w3.size
    (try simp at hs_w3)
    have hz_w3_w : w.heap.size < w3.heap.size := (by have hs := hb_w3.size; (try simp at hs); omega)
    have hy_w3_w : w.heap.size < w3.heap.size + 1 := (by omega)
    have hx_w3_w : w.heap.size < w3.heap.size + 1 + 1 := (by omega)
    have hc_w3_w := fun o => hb_w3.cell (p := ⟨w.heap.size, o, none⟩) (by first | omega | (simp; done) | (simp; omega))
    have hf_w3_w := fun o => hb_w3.frozen (p := ⟨w.heap.size, o, none⟩) (by first | omega | (simp; done) | (simp; omega))
    have hz_w3_wp1 : w.heap.size + 1 < w3.heap.size := (by have hs := hb_w3.size; (try simp at hs); omega)
    have hy_w3_wp1 : w.heap.size + 1 < w3.heap.size + 1 := (by omega)
    have hx_w3_wp1 : w.heap.size + 1 < w3.heap.size + 1 + 1 := (by omega)
    have hc_w3_wp1 := fun o => hb_w3.cell (p := ⟨w.heap.size + 1, o, none⟩) (by first | omega | (simp; done) | (simp; omega))
    have hf_w3_wp1 := fun o => hb_w3.frozen (p := ⟨w.heap.size + 1, o, none⟩) (by first | omega | (simp; done) | (simp; omega))
    have hz_w3_wp2 : w.heap.size + 1 + 1 < w3.heap.size := (by have hs := hb_w3.size; (try simp at hs); omega)
    have hy_w3_wp2 : w.heap.size + 1 + 1 < w3.heap.size + 1 := (by omega)
    have hx_w3_wp2 : w.heap.size + 1 + 1 < w3.heap.size + 1 + 1 := (by omega)
    have hc_w3_wp2 := fun o => hb_w3.cell (p := ⟨w.heap.size + 1 + 1, o, none⟩) (by first | omega | (simp; done) | (simp; omega))
    have hf_w3_wp2 := fun o => hb_w3.frozen (p := ⟨w.heap.size + 1 + 1, o, none⟩) (by first | omega | (simp; done) | (simp; omega))
    go_wp2
    refine bodyPost_ret (by simp [results, Try.results60, go_sem, *]; first | done | rfl) rfl ?_
    exact ⟨rfl, (by repeat' (first | (with_reducible exact Below.refl _ _) | (with_reducible assumption) | (with_reducible refine bl_alloc ?_ _) | (with_reducible refine bl_drew ?_) | (with_reducible refine bl_drewN ?_) | (with_reducible refine bl_setCell ?_ ?_ _) | (with_reducible refine bl_call ?_ (by with_reducible assumption)) | omega | (simp; done) | (simp; omega)))⟩

theorem rHull_any (a b r c d s : Int) (w : World) (h : Right a b r) (h' : Right c d s) :
    Calls Try.prog 60 #[.agg #[.int .i64 a, .int .i64 b, .int .i64 r], .agg #[.int .i64 c, .int .i64 d, .int .i64 s]] w fun e w' => e = .returned (outR (fin (huC a c) (huC b d) (huR a b r c d s) 0)) ∧ Below w.heap.size w w' := by
  obtain ⟨s1, s2, s3, s4⟩ := huC_sh h h'
  have q1 := s1.sq s2
  have q2 := s3.sq s4
  have u1 := rtu_bd q1.1 (by omega)
  have u2 := rtu_bd q2.1 (by omega)
  have bx := huC_bd h.1.1 h.1.2.1 h'.1.1 h'.1.2.1
  have by' := huC_bd h.1.2.2.1 h.1.2.2.2 h'.1.2.2.1 h'.1.2.2.2
  have e1 := h.sh
  have e2 := h'.sh
  refine rHull_core a b r c d s _ _ _ _ _ _ _ w h h' (huC_eq a c) (huC_eq b d) u1.1 u1.2 u2.1 u2.2
    (fun w => distance_any _ _ 0 a b r w s1.sm s2.sm (.of (by omega) (by omega)) (.of (by omega) (by omega)) e1.1.sm e1.2.sm)
    (fun w => distance_any _ _ 0 c d s w s3.sm s4.sm (.of (by omega) (by omega)) (.of (by omega) (by omega)) e2.1.sm e2.2.sm)
    (fun w => bRootUp_any _ w q1.1 (by omega)) (fun w => bRootUp_any _ w q2.1 (by omega)) ?_
  intro w
  have := Checked_any (huC a c) (huC b d) (huR a b r c d s) w
  rw [show huR a b r c d s = max (rtu ((huC a c - a) * (huC a c - a) + (huC b d - b) * (huC b d - b)) + r) (rtu ((huC a c - c) * (huC a c - c) + (huC b d - d) * (huC b d - d)) + s) from by unfold huR; rfl] at this ⊢
  exact this
end Go.Proofs.Ytjgmjnjpgdadhaa
