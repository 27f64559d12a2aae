/- The walks of the reference's balls of ranges and fractions. -/
import Derived.Test.YtjgmjnjpgdadhaaFrac
namespace Go.Proofs.Ytjgmjnjpgdadhaa
open Go.RowKit

set_option maxHeartbeats 1000000 in
theorem rOfRange_any (lo hi : Int) (w : World) :
    Calls Try.prog 36 #[.agg #[.int .i64 lo, .int .i64 hi]] w fun e w' => e = .returned (outR (ofRangeM lo hi)) ∧ Below w.heap.size w w' := by
  unfold ofRangeM
  by_cases c1 : -67108864 ≤ lo ∧ lo ≤ 67108864
  · have a1 : (decide ((-67108864 : Int) ≤ lo) && decide (lo ≤ 67108864)) = true := by simp [c1.1, c1.2]
    by_cases c2 : -67108864 ≤ hi ∧ hi ≤ 67108864
    · have a2 : (decide ((-67108864 : Int) ≤ hi) && decide (hi ≤ 67108864)) = true := by simp [c2.1, c2.2]
      rw [if_neg (by simp; omega)]
      by_cases c3 : hi < lo
      · rw [if_pos c3]
        unfold outR
        go_enter Try.func36, Try.ntmps36
        go_wp2_with (go_at_call 101; (with_reducible refine (isPart_any _ _).mono ?_); rintro e w' ⟨rfl, rfl⟩; (first | rw [a1] | rw [a2]))
        refine bodyPost_ret (by simp [results, Try.results36, go_sem, *]; first | done | rfl) rfl ?_
        exact ⟨rfl, (by repeat' (first | (with_reducible exact Below.refl _ _) | (with_reducible assumption) | (with_reducible refine bl_alloc ?_ _) | (with_reducible refine bl_drew ?_) | (with_reducible refine bl_drewN ?_) | (with_reducible refine bl_setCell ?_ ?_ _) | (with_reducible refine bl_call ?_ (by with_reducible assumption)) | omega | (simp; done) | (simp; omega)))⟩
      · rw [if_neg c3]
        unfold outR
        have hg : fin ((lo + hi) / 2) 0 (hi - (lo + hi) / 2) 0 = .good ((lo + hi) / 2) 0 (hi - (lo + hi) / 2) := by
          rw [fin_zero, if_pos]
          unfold Right Fits
          omega
        have H := Lib.hid hg
        clear hg
        go_enter Try.func36, Try.ntmps36
        go_wp2_with (first
          | (go_at_call 101; (with_reducible refine (isPart_any _ _).mono ?_); rintro e w' ⟨rfl, rfl⟩; (first | rw [a1] | rw [a2]))
          | (go_at_call 54; (with_reducible refine (bFloor_any _ _ _ (by omega) (by omega) (by omega) (by omega)).mono ?_); rintro e w' ⟨rfl, rfl⟩)
          | (go_at_call 77; (refine (Checked_good H.out _).mono ?_); rintro e w1 ⟨rfl, hb1⟩; have hz_w1_w : w.heap.size < w1.heap.size := (by have hs := hb1.size; (try simp at hs); omega); have hy_w1_w : w.heap.size < w1.heap.size + 1 := (by omega); have hx_w1_w : w.heap.size < w1.heap.size + 1 + 1 := (by omega); have hc_w1_w := fun o => hb1.cell (p := ⟨w.heap.size, o, none⟩) (by first | omega | (simp; done) | (simp; omega)); have hf_w1_w := fun o => hb1.frozen (p := ⟨w.heap.size, o, none⟩) (by first | omega | (simp; done) | (simp; omega)); have hz_w1_wp1 : w.heap.size + 1 < w1.heap.size := (by have hs := hb1.size; (try simp at hs); omega); have hy_w1_wp1 : w.heap.size + 1 < w1.heap.size + 1 := (by omega); have hx_w1_wp1 : w.heap.size + 1 < w1.heap.size + 1 + 1 := (by omega); have hc_w1_wp1 := fun o => hb1.cell (p := ⟨w.heap.size + 1, o, none⟩) (by first | omega | (simp; done) | (simp; omega)); have hf_w1_wp1 := fun o => hb1.frozen (p := ⟨w.heap.size + 1, o, none⟩) (by first | omega | (simp; done) | (simp; omega))))
        refine bodyPost_ret (by simp [results, Try.results36, go_sem, *]; first | done | rfl) rfl ?_
        exact ⟨rfl, (by repeat' (first | (with_reducible exact Below.refl _ _) | (with_reducible assumption) | (with_reducible refine bl_alloc ?_ _) | (with_reducible refine bl_drew ?_) | (with_reducible refine bl_drewN ?_) | (with_reducible refine bl_setCell ?_ ?_ _) | (with_reducible refine bl_call ?_ (by with_reducible assumption)) | omega | (simp; done) | (simp; omega)))⟩
    · have a2 : (decide ((-67108864 : Int) ≤ hi) && decide (hi ≤ 67108864)) = false := by rw [Bool.eq_false_iff]; simp; omega
      rw [if_pos (by simp; omega)]
      unfold outR
      clear c1 c2
      go_enter Try.func36, Try.ntmps36
      go_wp2_with (go_at_call 101; (with_reducible refine (isPart_any _ _).mono ?_); rintro e w' ⟨rfl, rfl⟩; (first | rw [a1] | rw [a2]))
      refine bodyPost_ret (by simp [results, Try.results36, go_sem, *]; first | done | rfl) rfl ?_
      exact ⟨rfl, (by repeat' (first | (with_reducible exact Below.refl _ _) | (with_reducible assumption) | (with_reducible refine bl_alloc ?_ _) | (with_reducible refine bl_drew ?_) | (with_reducible refine bl_drewN ?_) | (with_reducible refine bl_setCell ?_ ?_ _) | (with_reducible refine bl_call ?_ (by with_reducible assumption)) | omega | (simp; done) | (simp; omega)))⟩
  · have a1 : (decide ((-67108864 : Int) ≤ lo) && decide (lo ≤ 67108864)) = false := by rw [Bool.eq_false_iff]; simp; omega
    rw [if_pos (by simp; omega)]
    unfold outR
    clear c1
    go_enter Try.func36, Try.ntmps36
    go_wp2_with (go_at_call 101; (with_reducible refine (isPart_any _ _).mono ?_); rintro e w' ⟨rfl, rfl⟩; rw [a1])
    refine bodyPost_ret (by simp [results, Try.results36, go_sem, *]; first | done | rfl) rfl ?_
    exact ⟨rfl, (by repeat' (first | (with_reducible exact Below.refl _ _) | (with_reducible assumption) | (with_reducible refine bl_alloc ?_ _) | (with_reducible refine bl_drew ?_) | (with_reducible refine bl_drewN ?_) | (with_reducible refine bl_setCell ?_ ?_ _) | (with_reducible refine bl_call ?_ (by with_reducible assumption)) | omega | (simp; done) | (simp; omega)))⟩
end Go.Proofs.Ytjgmjnjpgdadhaa
