/- The root of a ball and the roots of a range: the program's public functions and the reference's. -/
import Derived.Test.YtjgmjnjpgdadhaaRoots2
import Derived.Test.YtjgmjnjpgdadhaaRefMakes
namespace Go.Proofs.Ytjgmjnjpgdadhaa
open Go.RowKit

theorem rt_ge {n k : Int} (h0 : 0 ≤ n) (h1 : n < 4611686018427387904) (_hk : 0 ≤ k) (h : k * k ≤ n) : k ≤ rt n := by
  have := rt_spec h0 h1
  have n0 := rt_nonneg n
  have : k < rt n + 1 := lt_of_sq (by omega) (by omega)
  omega

/-- The greater part of a root. -/
@[irreducible] def roW (a b : Int) : Int := rt ((rt (a * a + b * b) + (a.natAbs : Int)) * 524288)
@[irreducible] def roX (a b : Int) : Int := if 0 ≤ a then roW a b else qv (b.natAbs : Int) (2 * roW a b).toNat
@[irreducible] def roY (a b : Int) : Int := if 0 ≤ a then qv b (2 * roW a b).toNat else if 0 ≤ b then roW a b else -roW a b
@[irreducible] def roR (a b r : Int) : Int := -(-(r * 1048576) / rt (rt (a * a + b * b) * 1048576)) + 3 + -(-1048576 / roW a b)
def rootR (a b r : Int) : Res :=
  if rt (a * a + b * b) ≤ r then .bad 9
  else if a < 0 ∧ (-r ≤ b ∧ b ≤ r) ∧ r ≠ 0 then .bad 14
  else fin (roX a b) (roY a b) (roR a b r) 0
def rootM (a b r : Int) : Res := onOne a b r (rootR a b r)

theorem root_nums {a b r : Int} (h : Right a b r) (hm : r < rt (a * a + b * b)) (Q : Int) :
    RootNums a b r (rt (a * a + b * b)) (roW a b) Q (rt (rt (a * a + b * b) * 1048576)) (2 * roW a b).toNat ∧ 724 ≤ roW a b := by
  have q1 := h.sh.1.sq h.sh.2
  obtain ⟨⟨h1, h2, h3, h4⟩, r0, r1⟩ := h
  have t1 := rt_le (b := 1073741824) q1.1 (by omega) (by omega) (by omega)
  have m1 : 1 ≤ rt (a * a + b * b) := by omega
  unfold roW
  generalize rt (a * a + b * b) = m at *
  have w1 : 724 ≤ rt ((m + (a.natAbs : Int)) * 524288) := rt_ge (by omega) (by omega) (by omega) (by omega)
  have w2 : rt ((m + (a.natAbs : Int)) * 524288) ≤ 1073741824 := rt_le (by omega) (by omega) (by omega) (by omega)
  have V1 : 1 ≤ rt (m * 1048576) := rt_ge (by omega) (by omega) (by omega) (by omega)
  have V2 : rt (m * 1048576) ≤ 1073741824 := rt_le (by omega) (by omega) (by omega) (by omega)
  exact ⟨⟨by omega, t1, by omega, w2, by omega, V1, V2, ⟨h1, h2⟩, ⟨h3, h4⟩, r0, r1⟩, w1⟩

set_option maxHeartbeats 1000000 in
theorem Root_frame (x y r a b c q : Int) (w : World) (f1 : Flo x) (f2 : Flo y)
    (hd : ∀ w, Right x y r → Does 109 #[] x y r w (.tuple #[.agg #[.int .i64 a, .int .i64 b, .int .i64 c], .int .i64 q])) :
    Calls Try.prog 48 #[.agg #[.complex .f64 (fl x) (fl y), .int .i64 r]] w fun e w' => e = .returned (out (onOne x y r (fin a b c q))) ∧ Below w.heap.size w w' := by
  rw [out_quad]
  go_enter Try.func48, Try.ntmps48
  go_wp2_with fail
  refine (unary_any _ #[] x y r _ _ _ _ _ f1 f2 (enters_of Try.func109 (by kernel_rfl) rfl) (hd _)).mono ?_
  rintro e w1 ⟨rfl, hb_w1⟩
  have hs_w1 := hb_w1.size
  (try simp at hs_w1)
  have hz_w1_wp1 : w.heap.size + 1 < w1.heap.size := (by have hs := hb_w1.size; (try simp at hs); omega)
  have hy_w1_wp1 : w.heap.size + 1 < w1.heap.size + 1 := (by omega)
  have hx_w1_wp1 : w.heap.size + 1 < w1.heap.size + 1 + 1 := (by omega)
  have hc_w1_wp1 := fun o => hb_w1.cell (p := ⟨w.heap.size + 1, o, none⟩) (by first | omega | (simp; done) | (simp; omega))
  have hf_w1_wp1 := fun o => hb_w1.frozen (p := ⟨w.heap.size + 1, o, none⟩) (by first | omega | (simp; done) | (simp; omega))
  rw [out_quad]
  go_wp2
  refine bodyPost_ret (by simp [results, Try.results48, go_sem, *]; first | done | rfl) rfl ?_
  exact ⟨rfl, (by repeat' (first | (with_reducible exact Below.refl _ _) | (with_reducible assumption) | (with_reducible refine bl_alloc ?_ _) | (with_reducible refine bl_drew ?_) | (with_reducible refine bl_drewN ?_) | (with_reducible refine bl_setCell ?_ ?_ _) | (with_reducible refine bl_call ?_ (by with_reducible assumption)) | omega | (simp; done) | (simp; omega)))⟩

theorem Root_val (a b r : Int) (h : Right a b r) : ∃ x y z q, rootR a b r = fin x y z q ∧ ∀ w, Calls Try.prog 109 #[.agg #[.int .i64 a, .int .i64 b, .int .i64 r]] w fun e w' => e = .returned (.tuple #[.agg #[.int .i64 x, .int .i64 y, .int .i64 z], .int .i64 q]) ∧ Below w.heap.size w w' := by
  unfold rootR
  have cd := fun w => down_any a b w h.sh.1 h.sh.2
  by_cases c1 : rt (a * a + b * b) ≤ r
  · exact ⟨a, b, r, 9, by rw [if_pos c1, fin_bad _ _ _ 9 (by omega)], fun w => root1_zero a b r _ w c1 cd⟩
  · by_cases c2 : a < 0 ∧ (-r ≤ b ∧ b ≤ r) ∧ r ≠ 0
    · exact ⟨a, b, r, 14, by rw [if_neg c1, if_pos c2, fin_bad _ _ _ 14 (by omega)], fun w => root1_clash a b r _ w (by omega) c2.1 c2.2.1 h.2.1 h.2.2 c2.2.2 cd⟩
    · refine ⟨roX a b, roY a b, roR a b r, 0, by rw [if_neg c1, if_neg c2], fun w => ?_⟩
      have N := fun Q => root_nums h (by omega) Q
      obtain ⟨N0, N1⟩ := N 0
      have eW := N0.eW
      have w2 := N0.w2
      have m0 := N0.m0
      have m1 := N0.m1
      have a1 := N0.a1
      have b1 := N0.b1
      have cv := fun w => root_any (rt (a * a + b * b) * 1048576) w (by omega) (by omega)
      have q1 := fun w => quotient_any b (2 * roW a b).toNat w (by omega) (by omega) (by omega) (by omega)
      have q2 := fun w => quotient_any (b.natAbs : Int) (2 * roW a b).toNat w (by omega) (by omega) (by omega) (by omega)
      rw [eW] at q1 q2
      have eR : roR a b r = -(-(r * 1048576) / rt (rt (a * a + b * b) * 1048576)) + 3 + -(-1048576 / roW a b) := by unfold roR; rfl
      rw [eR]
      by_cases ha : 0 ≤ a
      · rw [show roX a b = roW a b from by unfold roX; rw [if_pos ha], show roY a b = qv b (2 * roW a b).toNat from by unfold roY; rw [if_pos ha]]
        have cr := fun w => root_any ((rt (a * a + b * b) + a) * 524288) w (by omega) (by omega)
        rw [show rt ((rt (a * a + b * b) + a) * 524288) = roW a b from by unfold roW; rw [show (a.natAbs : Int) = a by omega]] at cr
        exact root1_pos a b r _ _ _ _ _ _ w (N _).1 (by omega) ha cd cr q1 cv
      · rw [show roX a b = qv (b.natAbs : Int) (2 * roW a b).toNat from by unfold roX; rw [if_neg ha], show roY a b = if 0 ≤ b then roW a b else -roW a b from by unfold roY; rw [if_neg ha]]
        have cr := fun w => root_any ((rt (a * a + b * b) + -a) * 524288) w (by omega) (by omega)
        rw [show rt ((rt (a * a + b * b) + -a) * 524288) = roW a b from by unfold roW; rw [show (a.natAbs : Int) = -a by omega]] at cr
        refine root1_neg a b r _ _ _ _ _ _ _ _ _ w (N _).1 (by omega) (by omega) ?_ ?_ cd cr q1 q2 cv
        · by_cases k : r = 0
          · exact .inr k
          · exact .inl (fun hb => c2 ⟨by omega, hb, k⟩)
        · by_cases k : 0 ≤ b
          · exact .inl ⟨k, by rw [if_pos k]⟩
          · exact .inr ⟨by omega, by rw [if_neg k]⟩

theorem Root_any (x y r : Int) (w : World) (f1 : Flo x) (f2 : Flo y) :
    Calls Try.prog 48 #[.agg #[.complex .f64 (fl x) (fl y), .int .i64 r]] w fun e w' => e = .returned (out (rootM x y r)) ∧ Below w.heap.size w w' := by
  unfold rootM
  by_cases h : Right x y r
  · obtain ⟨a, b, c, q, e, hc⟩ := Root_val x y r h
    rw [e]
    exact Root_frame x y r a b c q w f1 f2 fun w _ w1 _ => by rw [Array.append_empty]; exact hc w1
  · rw [show onOne x y r (rootR x y r) = onOne x y r (fin 0 0 0 0) from by unfold onOne; rw [if_neg h, if_neg h]]
    exact Root_frame x y r 0 0 0 0 w f1 f2 fun w h' => absurd h' h

/-- The rounded parts of both agree, or neither fits. -/
theorem root_same {a b r : Int} (h : Right a b r) (hm : r < rt (a * a + b * b)) :
    (0 ≤ a → fin (roW a b) (rv b (2 * roW a b).toNat) (roR a b r) 0 = fin (roX a b) (roY a b) (roR a b r) 0) ∧
    (a < 0 → fin (rv (b.natAbs : Int) (2 * roW a b).toNat) (if 0 ≤ b then roW a b else -roW a b) (roR a b r) 0 = fin (roX a b) (roY a b) (roR a b r) 0) := by
  obtain ⟨N0, N1⟩ := root_nums h hm 0
  constructor
  · intro ha
    rw [show roX a b = roW a b from by unfold roX; rw [if_pos ha], show roY a b = qv b (2 * roW a b).toNat from by unfold roY; rw [if_pos ha]]
    rcases qv_rv b (2 * roW a b).toNat (by omega) with ⟨e, _⟩ | ⟨g1, g2⟩
    · rw [e]
    · rw [fin_no (by unfold Right Fits; omega), fin_no (by unfold Right Fits; omega)]
  · intro ha
    rw [show roX a b = qv (b.natAbs : Int) (2 * roW a b).toNat from by unfold roX; rw [if_neg (by omega)], show roY a b = if 0 ≤ b then roW a b else -roW a b from by unfold roY; rw [if_neg (by omega)]]
    rcases qv_rv (b.natAbs : Int) (2 * roW a b).toNat (by omega) with ⟨e, _⟩ | ⟨g1, g2⟩
    · rw [e]
    · rw [fin_no (by unfold Right Fits; omega), fin_no (by unfold Right Fits; omega)]

theorem rRoot_any (a b r : Int) (w : World) (h : Right a b r) :
    Calls Try.prog 50 #[.agg #[.int .i64 a, .int .i64 b, .int .i64 r]] w fun e w' => e = .returned (outR (rootR a b r)) ∧ Below w.heap.size w w' := by
  have cd := fun w => Down_any a b r w h.sh.1 h.sh.2
  unfold rootR
  by_cases c1 : rt (a * a + b * b) ≤ r
  · rw [if_pos c1]; exact rRoot_zero a b r _ w c1 cd
  · rw [if_neg c1]
    by_cases c2 : a < 0 ∧ (-r ≤ b ∧ b ≤ r) ∧ r ≠ 0
    · rw [if_pos c2]; exact rRoot_clash a b r _ w (by omega) c2.1 c2.2.1 h.2.2 c2.2.2 cd
    · rw [if_neg c2]
      have N := fun Q => root_nums h (by omega) Q
      obtain ⟨N0, N1⟩ := N 0
      have eW := N0.eW
      have w2 := N0.w2
      have m0 := N0.m0
      have m1 := N0.m1
      have a1 := N0.a1
      have b1 := N0.b1
      have cv := fun w => bRoot_any (rt (a * a + b * b) * 1048576) w (by omega) (by omega)
      have q1 := fun w => bSR_any b (2 * roW a b).toNat w (by omega) (by omega) (by omega) (by omega)
      have q2 := fun w => bSR_any (b.natAbs : Int) (2 * roW a b).toNat w (by omega) (by omega) (by omega) (by omega)
      rw [eW] at q1 q2
      have eR : roR a b r = -(-(r * 1048576) / rt (rt (a * a + b * b) * 1048576)) + 3 + -(-1048576 / roW a b) := by unfold roR; rfl
      have RS := root_same h (show r < rt (a * a + b * b) by omega)
      by_cases ha : 0 ≤ a
      · rw [← RS.1 ha]
        have cr := fun w => bRoot_any ((rt (a * a + b * b) + a) * 524288) w (by omega) (by omega)
        rw [show rt ((rt (a * a + b * b) + a) * 524288) = roW a b from by unfold roW; rw [show (a.natAbs : Int) = a by omega]] at cr
        exact rRoot_pos a b r _ _ _ _ _ _ _ w (N _).1 (by omega) ha cd cr q1 cv (fun w => by rw [← eR]; exact Checked_any _ _ _ w)
      · rw [← RS.2 (by omega)]
        have cr := fun w => bRoot_any ((rt (a * a + b * b) - a) * 524288) w (by omega) (by omega)
        rw [show rt ((rt (a * a + b * b) - a) * 524288) = roW a b from by unfold roW; rw [show (a.natAbs : Int) = -a by omega, ← Int.sub_eq_add_neg]] at cr
        refine rRoot_neg a b r _ _ _ _ _ _ _ _ w (N _).1 (by omega) (by omega) ?_ ?_ cd cr q2 cv (fun w => by rw [← eR]; exact Checked_any _ _ _ w)
        · by_cases k : r = 0
          · exact .inr k
          · exact .inl (fun hb => c2 ⟨by omega, hb, k⟩)
        · by_cases k : 0 ≤ b
          · exact .inl ⟨k, by rw [if_pos k]⟩
          · exact .inr ⟨by omega, by rw [if_neg k]⟩
end Go.Proofs.Ytjgmjnjpgdadhaa
