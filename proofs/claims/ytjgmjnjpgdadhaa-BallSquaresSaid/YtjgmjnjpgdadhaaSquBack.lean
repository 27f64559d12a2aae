/- BallSquares in plain Lean: a product, divided by one of both, meets the other one; a root, multiplied by itself, meets its ball. -/
import Derived.Test.YtjgmjnjpgdadhaaSquLaw
import Derived.Test.YtjgmjnjpgdadhaaLies2
namespace Go.Proofs.Ytjgmjnjpgdadhaa

set_option maxHeartbeats 8000000 in
/-- The quotient of a product by one of both meets the other one. -/
theorem squ_back {a b r c d s : Int} (h : Near a b r) (h' : Near c d s) (hD : s < rt (c * c + d * d)) {X Y P : Int} (hX : X = rnd (a * c - b * d)) (hY : Y = rnd (a * d + b * c)) (hP : P = timesR a b r c d s) {U V R : Int}
    (hR : Right U V R) (eU : U = qv (X * c + Y * d) (c * c + d * d).toNat) (eV : V = qv (Y * c - X * d) (c * c + d * d).toNat)
    (eR : R = qu2 (P * rtu (c * c + d * d) + rtu (X * X + Y * Y) * s).toNat ((rt (c * c + d * d) - s) * rt (c * c + d * d)).toNat + b1 (qi (X * c + Y * d) (c * c + d * d).toNat || qi (Y * c - X * d) (c * c + d * d).toNat)) :
    apB U V a b (R + r) = true := by
  obtain ⟨hp, hp0⟩ := times_near h h'
  rw [← hX, ← hY, ← hP] at hp
  rw [← hP] at hp0
  have hr := near_right h'
  obtain ⟨B1, B2, B3, B4, B5, B6⟩ := quo_bounds hp hr hD
  have q2 := hr.sh.1.sq hr.sh.2
  have q1 := hp.sh.1.sq hp.sh.2
  have sp := rt_spec q2.1 (Int.lt_of_le_of_lt q2.2 (by decide))
  have su := rtu_sq q2.1 (Int.lt_of_le_of_lt q2.2 (by decide))
  have u2 := rtu_bd q2.1 (Int.le_trans q2.2 (by decide))
  have u1 := rtu_bd q1.1 (Int.le_trans q1.2 (by decide))
  have tl := two_lost (a * c - b * d) (a * d + b * c)
  have l1 := rnd_lost (a * c - b * d)
  have l2 := rnd_lost (a * d + b * c)
  rw [← hX] at tl l1
  rw [← hY] at tl l2
  have eN : (((c * c + d * d).toNat : Nat) : Int) = c * c + d * d := Int.toNat_of_nonneg q2.1
  have eT : (((P * rtu (c * c + d * d) + rtu (X * X + Y * Y) * s).toNat : Nat) : Int) = P * rtu (c * c + d * d) + rtu (X * X + Y * Y) * s := Int.toNat_of_nonneg (Int.add_nonneg B2.1 B3.1)
  have eE : ((((rt (c * c + d * d) - s) * rt (c * c + d * d)).toNat : Nat) : Int) = (rt (c * c + d * d) - s) * rt (c * c + d * d) := Int.toNat_of_nonneg (Int.le_trans (by decide) B4.1)
  obtain ⟨⟨f1, f2, f3, f4⟩, f5, f6⟩ := hR
  have o := b1_bd (qi (X * c + Y * d) (c * c + d * d).toNat || qi (Y * c - X * d) (c * c + d * d).toNat)
  have ql := q_lost (p := X * c + Y * d) (q := Y * c - X * d) (N := (c * c + d * d).toNat) (Int.ofNat_le.mp (by rw [eN]; exact B5)) (by rw [← eU]; exact ⟨f1, f2⟩) (by rw [← eV]; exact ⟨f3, f4⟩)
  rw [← eU, ← eV, eN] at ql
  have qf := qu_fits (a := (P * rtu (c * c + d * d) + rtu (X * X + Y * Y) * s).toNat) (N := ((rt (c * c + d * d) - s) * rt (c * c + d * d)).toNat) (by rw [eR] at f6; exact Int.le_trans (Int.le_add_of_nonneg_right o.1) f6)
  rw [eT, eE] at qf
  have ud := up_div (n := (P * rtu (c * c + d * d) + rtu (X * X + Y * Y) * s) * 1048576) (b := (rt (c * c + d * d) - s) * rt (c * c + d * d)) (Int.lt_of_lt_of_le (by decide) B4.1)
  have un := up_nonneg (n := (P * rtu (c * c + d * d) + rtu (X * X + Y * Y) * s) * 1048576) (b := (rt (c * c + d * d) - s) * rt (c * c + d * d)) (Int.lt_of_lt_of_le (by decide) B4.1) (Int.mul_nonneg (Int.add_nonneg B2.1 B3.1) (by decide))
  rw [← qf] at ud un
  have key := back_meets a b r c d s X Y P U V (rtu (X * X + Y * Y)) (rtu (c * c + d * d)) (rt (c * c + d * d)) 1048576 (b1 (inx (a * c - b * d) || inx (a * d + b * c))) (b1 (qi (X * c + Y * d) (c * c + d * d).toNat || qi (Y * c - X * d) (c * c + d * d).toNat))
    (qu2 (P * rtu (c * c + d * d) + rtu (X * X + Y * Y) * s).toNat ((rt (c * c + d * d) - s) * rt (c * c + d * d)).toNat)
    (by decide) h.2.2.2.2.1 h'.2.2.2.2.1 u2.1 su hD sp.1 tl l1.1 l1.2.1 l2.1 l2.2.1 (Int.le_of_sub_nonneg hp0) ql.1 ql.2.1 ql.2.2.1 ql.2.2.2.1 ql.2.2.2.2 u1.1 un (by rw [Int.mul_comm 1048576]; rw [Int.mul_comm _ ((rt (c * c + d * d) - s) * rt (c * c + d * d))]; exact ud)
  rw [apB_pos (Int.add_nonneg f5 h.2.2.2.2.1), eR]
  exact decide_eq_true key

/-- The bounds that the root law asks for. -/
theorem ro_off {a b r re im o : Int} (h : Near a b r) (hre : re = a.natAbs) (him : im * im = b * b) (m1 : 1 ≤ rt (a * a + b * b)) (hf : -roW a b ≤ 2 * roW a b * o - im * 1048576) (hf2 : 2 * roW a b * o - im * 1048576 ≤ roW a b) (w0 : 724 ≤ roW a b) :
    -(5 * roW a b + 2097152) ≤ roW a b * roW a b - o * o - 1048576 * re ∧ roW a b * roW a b - o * o - 1048576 * re ≤ 5 * roW a b + 2097152 := by
  have hr := near_right h
  have q := hr.sh.1.sq hr.sh.2
  have sp := rt_spec q.1 (by omega)
  have e : re * re = a * a := by rw [hre]; exact Int.natAbs_mul_self' a
  have rb : rt (a * a + b * b) ≤ 1073741824 := rt_le q.1 (by omega) (by omega) (by omega)
  have ar : 0 ≤ re ∧ re ≤ 4194304 := by obtain ⟨h1, h2, h3, h4, h5, h6⟩ := h; omega
  have wd : roW a b = rt ((rt (a * a + b * b) + re) * 524288) := by unfold roW; rw [hre]
  have sw := rt_spec (n := (rt (a * a + b * b) + re) * 524288) (by omega) (by omega)
  rw [← wd] at sw
  have e3 : (rt (a * a + b * b) + 1) * (rt (a * a + b * b) + 1) = rt (a * a + b * b) * rt (a * a + b * b) + 2 * rt (a * a + b * b) + 1 := by grind
  have e4 : (roW a b + 1) * (roW a b + 1) = roW a b * roW a b + 2 * roW a b + 1 := by grind
  exact root_off re im (rt (a * a + b * b)) (roW a b) o ar.1 (by rw [e, him]; exact sp.1) (by rw [e, him]; omega) m1 sw.1 (by omega) w0 hf hf2

set_option maxHeartbeats 2000000 in
theorem squ_core {a b r X Y RR e f : Int} (h : Near a b r) (hR : Right X Y RR) (w0 : 724 ≤ roW a b) (hRR : 3 + -(-1048576 / roW a b) ≤ RR) (hW : roW a b * roW a b ≤ X * X + Y * Y)
    (he : X * X - Y * Y - 1048576 * a = e) (hf : X * Y + Y * X - 1048576 * b = f) (e1 : -(5 * roW a b + 2097152) ≤ e) (e2 : e ≤ 5 * roW a b + 2097152) (f1 : -roW a b ≤ f) (f2 : f ≤ roW a b) :
    apB (rnd (X * X - Y * Y)) (rnd (X * Y + Y * X)) a b (timesR X Y RR X Y RR + r) = true := by
  have q := hR.sh.1.sq hR.sh.2
  have su := rtu_sq q.1 (Int.lt_of_le_of_lt q.2 (by decide))
  have u2 := rtu_bd q.1 (Int.le_trans q.2 (by decide))
  have hup : roW a b ≤ rtu (X * X + Y * Y) := le_of_sq u2.1 (Int.le_trans hW su)
  have wp : 0 < roW a b := Int.lt_of_lt_of_le (by decide) w0
  have tl := two_lost (X * X - Y * Y) (X * Y + Y * X)
  have l1 := rnd_lost (X * X - Y * Y)
  have l2 := rnd_lost (X * Y + Y * X)
  have hq := up_div (n := 1048576) (b := roW a b) wp
  have r0 : 0 ≤ RR := hR.2.1
  have p1 := Int.mul_nonneg u2.1 r0
  have p2 := Int.mul_nonneg r0 r0
  have hS := up_div (n := rtu (X * X + Y * Y) * RR + rtu (X * X + Y * Y) * RR + RR * RR) (b := 1048576) (by decide)
  have nS := up_nonneg (n := rtu (X * X + Y * Y) * RR + rtu (X * X + Y * Y) * RR + RR * RR) (b := 1048576) (by decide) (Int.add_nonneg (Int.add_nonneg p1 p1) p2)
  have o := b1_bd (inx (X * X - Y * Y) || inx (X * Y + Y * X))
  have key := root_meets a b r e f (rnd (X * X - Y * Y)) (rnd (X * Y + Y * X)) (X * X - Y * Y) (X * Y + Y * X) _ RR _ _ _ _ h.2.2.2.2.1 he hf (Int.le_trans (by decide) w0) e1 e2 f1 f2 tl l1.1 l1.2.1 l2.1 l2.2.1 hq hRR hup hS
  have r1 : 0 ≤ r := h.2.2.2.2.1
  unfold timesR
  rw [apB_pos (Int.add_nonneg (Int.add_nonneg nS o.1) r1)]
  exact decide_eq_true key

theorem arm1 (w Y b : Int) (n : -(2 * w) ≤ 2 * (Y * (2 * w) - b * 1048576) ∧ 2 * (Y * (2 * w) - b * 1048576) ≤ 2 * w) :
    (-w ≤ 2 * w * Y - b * 1048576 ∧ 2 * w * Y - b * 1048576 ≤ w) ∧ -w ≤ w * Y + Y * w - 1048576 * b ∧ w * Y + Y * w - 1048576 * b ≤ w := by
  have i1 : Y * (2 * w) = 2 * (Y * w) := by grind
  have i2 : 2 * w * Y = 2 * (Y * w) := by grind
  have i3 : w * Y = Y * w := Int.mul_comm _ _
  omega
theorem arm2 (w X b : Int) (n : -w ≤ 2 * w * X - b * 1048576 ∧ 2 * w * X - b * 1048576 ≤ w) : -w ≤ X * w + w * X - 1048576 * b ∧ X * w + w * X - 1048576 * b ≤ w := by
  have i2 : 2 * w * X = 2 * (X * w) := by grind
  have i3 : w * X = X * w := Int.mul_comm _ _
  omega
theorem arm3 (w X b : Int) (n : -w ≤ 2 * w * X - -b * 1048576 ∧ 2 * w * X - -b * 1048576 ≤ w) : -w ≤ X * -w + -w * X - 1048576 * b ∧ X * -w + -w * X - 1048576 * b ≤ w := by
  have i2 : 2 * w * X = 2 * (X * w) := by grind
  have i3 : X * -w = -(X * w) := by grind
  have i4 : -w * X = -(X * w) := by grind
  omega
theorem arm4 (w X Y a K : Int) (hY : Y * Y = w * w) (n : -K ≤ w * w - X * X - 1048576 * -a ∧ w * w - X * X - 1048576 * -a ≤ K) : -K ≤ X * X - Y * Y - 1048576 * a ∧ X * X - Y * Y - 1048576 * a ≤ K := by omega

theorem roR_ge {a b r : Int} (r0 : 0 ≤ r) : 3 + -(-1048576 / roW a b) ≤ roR a b r := by
  have : 0 ≤ -(-(r * 1048576) / rt (rt (a * a + b * b) * 1048576)) := by
    have V1 : 0 ≤ rt (rt (a * a + b * b) * 1048576) := rt_nonneg _
    generalize rt (rt (a * a + b * b) * 1048576) = V at *
    rcases Int.lt_or_le 0 V with k | k
    · exact up_nonneg k (by omega)
    · rw [show V = 0 by omega, Int.ediv_zero]; decide
  unfold roR
  generalize -(-(r * 1048576) / rt (rt (a * a + b * b) * 1048576)) = u at *
  generalize -(-1048576 / roW a b) = v
  omega

theorem squ_root {a b r : Int} (h : Near a b r) (hm : r < rt (a * a + b * b)) (hR : Right (roX a b) (roY a b) (roR a b r)) :
    apB (rnd (roX a b * roX a b - roY a b * roY a b)) (rnd (roX a b * roY a b + roY a b * roX a b)) a b (timesR (roX a b) (roY a b) (roR a b r) (roX a b) (roY a b) (roR a b r) + r) = true := by
  have w0 := (root_nums (near_right h) hm 0).2
  have r0 : 0 ≤ r := h.2.2.2.2.1
  have m1 : 1 ≤ rt (a * a + b * b) := Int.lt_of_le_of_lt r0 hm
  have hRR := roR_ge (a := a) (b := b) r0
  have wp : 0 < 2 * roW a b := by omega
  have eN : (((2 * roW a b).toNat : Nat) : Int) = 2 * roW a b := Int.toNat_of_nonneg (Int.le_of_lt wp)
  by_cases ha : 0 ≤ a
  · have eX : roX a b = roW a b := by unfold roX; rw [if_pos ha]
    have eY : roY a b = qv b (2 * roW a b).toNat := by unfold roY; rw [if_pos ha]
    have qf := (qv_fits (n := b) (N := (2 * roW a b).toNat) (by rw [← eY]; exact hR.1.2.2)).1
    have nd := near_div (n := b * 1048576) (b := 2 * roW a b) wp
    rw [← eY] at qf
    unfold srq at qf
    rw [eN] at qf
    rw [← qf] at nd
    have A := arm1 _ _ _ nd
    have off := ro_off (re := a) (im := b) (o := roY a b) h (Int.natAbs_of_nonneg ha).symm rfl m1 A.1.1 A.1.2 w0
    refine squ_core h hR w0 hRR ?_ rfl rfl ?_ ?_ ?_ ?_ <;> rw [eX]
    · exact Int.le_add_of_nonneg_right (sqn _)
    · exact off.1
    · exact off.2
    · exact A.2.1
    · exact A.2.2
  · have eX : roX a b = qv (b.natAbs : Int) (2 * roW a b).toNat := by unfold roX; rw [if_neg ha]
    have qf := (qv_fits (n := (b.natAbs : Int)) (N := (2 * roW a b).toNat) (by rw [← eX]; exact ⟨hR.1.1, hR.1.2.1⟩)).1
    have nd := near_div (n := (b.natAbs : Int) * 1048576) (b := 2 * roW a b) wp
    rw [← eX] at qf
    unfold srq at qf
    rw [eN] at qf
    rw [← qf] at nd
    have A := (arm1 _ _ _ nd).1
    have off := ro_off (re := (a.natAbs : Int)) (im := (b.natAbs : Int)) (o := roX a b) h rfl (Int.natAbs_mul_self' b) m1 A.1 A.2 w0
    rw [show (a.natAbs : Int) = -a by omega] at off
    by_cases hb : 0 ≤ b
    · have eY : roY a b = roW a b := by unfold roY; rw [if_neg ha, if_pos hb]
      rw [Int.natAbs_of_nonneg hb] at A
      have F := arm2 _ _ _ A
      have E := arm4 _ _ (roY a b) _ _ (by rw [eY]) off
      rw [← eY] at F
      refine squ_core h hR w0 hRR ?_ rfl rfl E.1 E.2 ?_ ?_
      · rw [eY, Int.add_comm]; exact Int.le_add_of_nonneg_right (sqn _)
      · rw [← eY]; exact F.1
      · rw [← eY]; exact F.2
    · have eY : roY a b = -roW a b := by unfold roY; rw [if_neg ha, if_neg hb]
      rw [show (b.natAbs : Int) = -b by omega] at A
      have F := arm3 _ _ _ A
      have E := arm4 _ _ (roY a b) _ _ (by rw [eY]; exact Int.neg_mul_neg _ _) off
      rw [← eY] at F
      refine squ_core h hR w0 hRR ?_ rfl rfl E.1 E.2 ?_ F.2
      · rw [eY, Int.neg_mul_neg, Int.add_comm]; exact Int.le_add_of_nonneg_right (sqn _)
      · rw [← eY]; exact F.1

end Go.Proofs.Ytjgmjnjpgdadhaa
