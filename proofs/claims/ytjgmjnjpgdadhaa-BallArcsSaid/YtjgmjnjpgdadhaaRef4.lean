/- The walks of the statements' helpers: which balls are right, and whether two are the same. -/
import Derived.Test.YtjgmjnjpgdadhaaRef3
namespace Go.Proofs.Ytjgmjnjpgdadhaa
open Go.RowKit

theorem least_eq : fl (-67108864) = 13947648045966426112 := by decide

/-- How a part stands to the limits. -/
theorem ord_lo (n : Int) (h : Flo n) : (FloatKind.f64.format.order (fl n) 13947648045966426112 == some .lt) = decide (n < -67108864) := by
  obtain ⟨h1, h2⟩ := h
  rw [← least_eq]
  by_cases a : n < -67108864
  · rw [ord_lt h1 h2 (by omega) (by omega) a]; simp [a]
  · by_cases b : n = -67108864
    · subst b; rw [ord_eq (by omega) (by omega)]; rfl
    · rw [ord_gt h1 h2 (by omega) (by omega) (by omega)]; simp [a]
theorem ord_hi (n : Int) (h : Flo n) : (FloatKind.f64.format.order (fl n) 4724276009111650304 == some .gt) = decide (67108864 < n) := by
  obtain ⟨h1, h2⟩ := h
  rw [← most_eq]
  by_cases a : 67108864 < n
  · rw [ord_gt h1 h2 (by omega) (by omega) a]; simp [a]
  · by_cases b : n = 67108864
    · subst b; rw [ord_eq (by omega) (by omega)]; rfl
    · rw [ord_lt h1 h2 (by omega) (by omega) (by omega)]; simp [a]

/-- The error of a ball of whole parts. -/
@[irreducible] def chk (x y r : Int) : Int := if Right x y r then 0 else 2

set_option maxHeartbeats 1000000 in
theorem rCheck_any (x y r : Int) (w : World) (f1 : Flo x) (f2 : Flo y) :
    Calls Try.prog 91 #[.agg #[.complex .f64 (fl x) (fl y), .int .i64 r]] w fun e w' => e = .returned (.int .i64 (chk x y r)) ∧ Below w.heap.size w w' := by
  obtain ⟨t1, a1⟩ : ∃ t, (FloatKind.f64.format.order (fl x) 13947648045966426112 == some .lt) = t := ⟨_, rfl⟩
  obtain ⟨t2, a2⟩ : ∃ t, (FloatKind.f64.format.order (fl x) 4724276009111650304 == some .gt) = t := ⟨_, rfl⟩
  obtain ⟨t3, a3⟩ : ∃ t, (FloatKind.f64.format.order (fl y) 13947648045966426112 == some .lt) = t := ⟨_, rfl⟩
  obtain ⟨t4, a4⟩ : ∃ t, (FloatKind.f64.format.order (fl y) 4724276009111650304 == some .gt) = t := ⟨_, rfl⟩
  obtain ⟨t5, a5⟩ : ∃ t, (decide ((0 : Int) ≤ r) && decide (r ≤ 67108864)) = t := ⟨_, rfl⟩
  have hv : chk x y r = if !t1 && !t2 && !t3 && !t4 && t5 then 0 else 2 := by
    unfold chk
    rw [← a1, ← a2, ← a3, ← a4, ← a5, ord_lo x f1, ord_hi x f1, ord_lo y f2, ord_hi y f2]
    congr 1
    simp only [Right, Fits, Bool.and_eq_true, Bool.not_eq_true', decide_eq_false_iff_not, decide_eq_true_eq, eq_iff_iff]
    omega
  rw [hv]
  clear hv
  have A5 := Lib.hid a5
  clear a5
  cases t1 <;> cases t2 <;> cases t3 <;> cases t4 <;> cases t5
  all_goals
    go_enter Try.func91, Try.ntmps91
    go_wp2_with fail
    refine calm_all (by kernel_rfl) (by kernel_rfl) fun hG => ?_
    have hg_w := hG (w.heap.size) (by first | omega | (simp; done) | (simp; omega))
    clear hG
    repeat (go_big_quiet_step (first | fail))
    refine wpQuiet_nil ?_
    intro w2 hb_w2
    clear hg_w
    have hz_w2_w : w.heap.size < w2.heap.size := (by have hs := hb_w2.size; (try simp at hs); omega)
    have hy_w2_w : w.heap.size < w2.heap.size + 1 := (by omega)
    have hx_w2_w : w.heap.size < w2.heap.size + 1 + 1 := (by omega)
    have hc_w2_w := fun o => hb_w2.cell (p := ⟨w.heap.size, o, none⟩) (by first | omega | (simp; done) | (simp; omega))
    have hf_w2_w := fun o => hb_w2.frozen (p := ⟨w.heap.size, o, none⟩) (by first | omega | (simp; done) | (simp; omega))
    go_wp2_with (first
      | (go_at_call 132; first | (with_reducible refine (bIsWhole_any x _ f1).mono ?_; rintro e w' ⟨rfl, rfl⟩) | (with_reducible refine (bIsWhole_any y _ f2).mono ?_; rintro e w' ⟨rfl, rfl⟩))
      | (go_at_call 26; (with_reducible refine (bWithin_any _ _ _ _).mono ?_); rintro e w' ⟨rfl, rfl⟩; rw [A5.out]))
    go_ret
    exact ⟨rfl, (by repeat' (first | (with_reducible exact Below.refl _ _) | (with_reducible assumption) | (with_reducible refine bl_alloc ?_ _) | (with_reducible refine bl_drew ?_) | (with_reducible refine bl_drewN ?_) | (with_reducible refine bl_setCell ?_ ?_ _) | (with_reducible refine bl_call ?_ (by with_reducible assumption)) | omega | (simp; done) | (simp; omega)))⟩
end Go.Proofs.Ytjgmjnjpgdadhaa
