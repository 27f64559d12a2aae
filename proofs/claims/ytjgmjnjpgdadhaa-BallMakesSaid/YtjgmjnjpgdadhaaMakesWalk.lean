/- BallMakes: the walk. -/
import Derived.Test.YtjgmjnjpgdadhaaRefFrac
import Derived.Test.YtjgmjnjpgdadhaaAwake
namespace Go.Proofs.Ytjgmjnjpgdadhaa
open Go.RowKit

theorem is_bad (q : Int) (w : World) :
    Calls Try.prog 21 #[.agg #[.complex .f64 0 0, .int .i64 0], .int .i64 q, .agg #[.int .i64 0, .int .i64 0, .int .i64 0], .int .i64 q] w fun e w' => e = .returned (.bool true) ∧ Below w.heap.size w w' := is_zero q w

set_option maxRecDepth 100000 in
set_option maxHeartbeats 4000000 in
theorem makes_walk (lo hi num den : Int) (w : World) :
    Calls Try.prog 7 #[.agg #[.int .i64 lo, .int .i64 hi], .int .i64 num, .int .i64 den] w fun e w' => e = .returned (.bool true) ∧ Below w.heap.size w w' := by
  have t1 := fun w => OfRange_any lo hi w
  have t2 := fun w => OfFrac_any num den w
  have t3 := fun w => rOfRange_any lo hi w
  have t4 := fun w => rOfFrac_any num den w
  generalize ofRangeM lo hi = r1 at t1 t3
  generalize ofFracM num den = r2 at t2 t4
  cases r1 <;> cases r2
  all_goals
    simp only [out, outR] at t1 t2 t3 t4
    have T1 := Lib.hid t1
    have T2 := Lib.hid t2
    have T3 := Lib.hid t3
    have T4 := Lib.hid t4
    clear t1 t2 t3 t4
    go_enter Try.func7, Try.ntmps7
    go_wp2_with fail
    refine (awake_any _).mono ?_
    rintro e wA ⟨rfl, hbA⟩
    have hz_wA_w : w.heap.size < wA.heap.size := (by have hs := hbA.size; (try simp at hs); omega)
    have hy_wA_w : w.heap.size < wA.heap.size + 1 := (by omega)
    have hx_wA_w : w.heap.size < wA.heap.size + 1 + 1 := (by omega)
    have hc_wA_w := fun o => hbA.cell (p := ⟨w.heap.size, o, none⟩) (by first | omega | (simp; done) | (simp; omega))
    have hf_wA_w := fun o => hbA.frozen (p := ⟨w.heap.size, o, none⟩) (by first | omega | (simp; done) | (simp; omega))
    go_wp2_with fail
    refine (T1.out _).mono ?_
    rintro e wB ⟨rfl, hbB⟩
    have hz_wB_w : w.heap.size < wB.heap.size := (by have hs := hbB.size; (try simp at hs); omega)
    have hy_wB_w : w.heap.size < wB.heap.size + 1 := (by omega)
    have hx_wB_w : w.heap.size < wB.heap.size + 1 + 1 := (by omega)
    have hc_wB_w := fun o => hbB.cell (p := ⟨w.heap.size, o, none⟩) (by first | omega | (simp; done) | (simp; omega))
    have hf_wB_w := fun o => hbB.frozen (p := ⟨w.heap.size, o, none⟩) (by first | omega | (simp; done) | (simp; omega))
    go_wp2_with fail
    refine (T2.out _).mono ?_
    rintro e wC ⟨rfl, hbC⟩
    have hz_wC_w : w.heap.size < wC.heap.size := (by have hs := hbC.size; (try simp at hs); omega)
    have hy_wC_w : w.heap.size < wC.heap.size + 1 := (by omega)
    have hx_wC_w : w.heap.size < wC.heap.size + 1 + 1 := (by omega)
    have hc_wC_w := fun o => hbC.cell (p := ⟨w.heap.size, o, none⟩) (by first | omega | (simp; done) | (simp; omega))
    have hf_wC_w := fun o => hbC.frozen (p := ⟨w.heap.size, o, none⟩) (by first | omega | (simp; done) | (simp; omega))
    have hz_wC_wB : wB.heap.size < wC.heap.size := (by have hs := hbC.size; (try simp at hs); omega)
    have hy_wC_wB : wB.heap.size < wC.heap.size + 1 := (by omega)
    have hx_wC_wB : wB.heap.size < wC.heap.size + 1 + 1 := (by omega)
    have hc_wC_wB := fun o => hbC.cell (p := ⟨wB.heap.size, o, none⟩) (by first | omega | (simp; done) | (simp; omega))
    have hf_wC_wB := fun o => hbC.frozen (p := ⟨wB.heap.size, o, none⟩) (by first | omega | (simp; done) | (simp; omega))
    go_wp2_with fail
    refine (T3.out _).mono ?_
    rintro e wD ⟨rfl, hbD⟩
    have hz_wD_w : w.heap.size < wD.heap.size := (by have hs := hbD.size; (try simp at hs); omega)
    have hy_wD_w : w.heap.size < wD.heap.size + 1 := (by omega)
    have hx_wD_w : w.heap.size < wD.heap.size + 1 + 1 := (by omega)
    have hc_wD_w := fun o => hbD.cell (p := ⟨w.heap.size, o, none⟩) (by first | omega | (simp; done) | (simp; omega))
    have hf_wD_w := fun o => hbD.frozen (p := ⟨w.heap.size, o, none⟩) (by first | omega | (simp; done) | (simp; omega))
    have hz_wD_wB : wB.heap.size < wD.heap.size := (by have hs := hbD.size; (try simp at hs); omega)
    have hy_wD_wB : wB.heap.size < wD.heap.size + 1 := (by omega)
    have hx_wD_wB : wB.heap.size < wD.heap.size + 1 + 1 := (by omega)
    have hc_wD_wB := fun o => hbD.cell (p := ⟨wB.heap.size, o, none⟩) (by first | omega | (simp; done) | (simp; omega))
    have hf_wD_wB := fun o => hbD.frozen (p := ⟨wB.heap.size, o, none⟩) (by first | omega | (simp; done) | (simp; omega))
    have hz_wD_wC : wC.heap.size < wD.heap.size := (by have hs := hbD.size; (try simp at hs); omega)
    have hy_wD_wC : wC.heap.size < wD.heap.size + 1 := (by omega)
    have hx_wD_wC : wC.heap.size < wD.heap.size + 1 + 1 := (by omega)
    have hc_wD_wC := fun o => hbD.cell (p := ⟨wC.heap.size, o, none⟩) (by first | omega | (simp; done) | (simp; omega))
    have hf_wD_wC := fun o => hbD.frozen (p := ⟨wC.heap.size, o, none⟩) (by first | omega | (simp; done) | (simp; omega))
    go_wp2_with fail
    refine (T4.out _).mono ?_
    rintro e wE ⟨rfl, hbE⟩
    have hz_wE_w : w.heap.size < wE.heap.size := (by have hs := hbE.size; (try simp at hs); omega)
    have hy_wE_w : w.heap.size < wE.heap.size + 1 := (by omega)
    have hx_wE_w : w.heap.size < wE.heap.size + 1 + 1 := (by omega)
    have hc_wE_w := fun o => hbE.cell (p := ⟨w.heap.size, o, none⟩) (by first | omega | (simp; done) | (simp; omega))
    have hf_wE_w := fun o => hbE.frozen (p := ⟨w.heap.size, o, none⟩) (by first | omega | (simp; done) | (simp; omega))
    have hz_wE_wB : wB.heap.size < wE.heap.size := (by have hs := hbE.size; (try simp at hs); omega)
    have hy_wE_wB : wB.heap.size < wE.heap.size + 1 := (by omega)
    have hx_wE_wB : wB.heap.size < wE.heap.size + 1 + 1 := (by omega)
    have hc_wE_wB := fun o => hbE.cell (p := ⟨wB.heap.size, o, none⟩) (by first | omega | (simp; done) | (simp; omega))
    have hf_wE_wB := fun o => hbE.frozen (p := ⟨wB.heap.size, o, none⟩) (by first | omega | (simp; done) | (simp; omega))
    have hz_wE_wC : wC.heap.size < wE.heap.size := (by have hs := hbE.size; (try simp at hs); omega)
    have hy_wE_wC : wC.heap.size < wE.heap.size + 1 := (by omega)
    have hx_wE_wC : wC.heap.size < wE.heap.size + 1 + 1 := (by omega)
    have hc_wE_wC := fun o => hbE.cell (p := ⟨wC.heap.size, o, none⟩) (by first | omega | (simp; done) | (simp; omega))
    have hf_wE_wC := fun o => hbE.frozen (p := ⟨wC.heap.size, o, none⟩) (by first | omega | (simp; done) | (simp; omega))
    have hz_wE_wD : wD.heap.size < wE.heap.size := (by have hs := hbE.size; (try simp at hs); omega)
    have hy_wE_wD : wD.heap.size < wE.heap.size + 1 := (by omega)
    have hx_wE_wD : wD.heap.size < wE.heap.size + 1 + 1 := (by omega)
    have hc_wE_wD := fun o => hbE.cell (p := ⟨wD.heap.size, o, none⟩) (by first | omega | (simp; done) | (simp; omega))
    have hf_wE_wD := fun o => hbE.frozen (p := ⟨wD.heap.size, o, none⟩) (by first | omega | (simp; done) | (simp; omega))
    go_wp2_with fail
    first | refine (is_same _ _ _ _ _).mono ?_ | refine (is_bad _ _).mono ?_
    rintro e wF ⟨rfl, hbF⟩
    have hz_wF_w : w.heap.size < wF.heap.size := (by have hs := hbF.size; (try simp at hs); omega)
    have hy_wF_w : w.heap.size < wF.heap.size + 1 := (by omega)
    have hx_wF_w : w.heap.size < wF.heap.size + 1 + 1 := (by omega)
    have hc_wF_w := fun o => hbF.cell (p := ⟨w.heap.size, o, none⟩) (by first | omega | (simp; done) | (simp; omega))
    have hf_wF_w := fun o => hbF.frozen (p := ⟨w.heap.size, o, none⟩) (by first | omega | (simp; done) | (simp; omega))
    have hz_wF_wB : wB.heap.size < wF.heap.size := (by have hs := hbF.size; (try simp at hs); omega)
    have hy_wF_wB : wB.heap.size < wF.heap.size + 1 := (by omega)
    have hx_wF_wB : wB.heap.size < wF.heap.size + 1 + 1 := (by omega)
    have hc_wF_wB := fun o => hbF.cell (p := ⟨wB.heap.size, o, none⟩) (by first | omega | (simp; done) | (simp; omega))
    have hf_wF_wB := fun o => hbF.frozen (p := ⟨wB.heap.size, o, none⟩) (by first | omega | (simp; done) | (simp; omega))
    have hz_wF_wC : wC.heap.size < wF.heap.size := (by have hs := hbF.size; (try simp at hs); omega)
    have hy_wF_wC : wC.heap.size < wF.heap.size + 1 := (by omega)
    have hx_wF_wC : wC.heap.size < wF.heap.size + 1 + 1 := (by omega)
    have hc_wF_wC := fun o => hbF.cell (p := ⟨wC.heap.size, o, none⟩) (by first | omega | (simp; done) | (simp; omega))
    have hf_wF_wC := fun o => hbF.frozen (p := ⟨wC.heap.size, o, none⟩) (by first | omega | (simp; done) | (simp; omega))
    have hz_wF_wD : wD.heap.size < wF.heap.size := (by have hs := hbF.size; (try simp at hs); omega)
    have hy_wF_wD : wD.heap.size < wF.heap.size + 1 := (by omega)
    have hx_wF_wD : wD.heap.size < wF.heap.size + 1 + 1 := (by omega)
    have hc_wF_wD := fun o => hbF.cell (p := ⟨wD.heap.size, o, none⟩) (by first | omega | (simp; done) | (simp; omega))
    have hf_wF_wD := fun o => hbF.frozen (p := ⟨wD.heap.size, o, none⟩) (by first | omega | (simp; done) | (simp; omega))
    have hz_wF_wE : wE.heap.size < wF.heap.size := (by have hs := hbF.size; (try simp at hs); omega)
    have hy_wF_wE : wE.heap.size < wF.heap.size + 1 := (by omega)
    have hx_wF_wE : wE.heap.size < wF.heap.size + 1 + 1 := (by omega)
    have hc_wF_wE := fun o => hbF.cell (p := ⟨wE.heap.size, o, none⟩) (by first | omega | (simp; done) | (simp; omega))
    have hf_wF_wE := fun o => hbF.frozen (p := ⟨wE.heap.size, o, none⟩) (by first | omega | (simp; done) | (simp; omega))
    go_wp2_with fail
    first | refine (is_same _ _ _ _ _).mono ?_ | refine (is_bad _ _).mono ?_
    rintro e wG ⟨rfl, hbG⟩
    go_wp2
    go_ret
    exact ⟨rfl, (by repeat' (first | (with_reducible exact Below.refl _ _) | (with_reducible assumption) | (with_reducible refine bl_alloc ?_ _) | (with_reducible refine bl_drew ?_) | (with_reducible refine bl_drewN ?_) | (with_reducible refine bl_setCell ?_ ?_ _) | (with_reducible refine bl_call ?_ (by with_reducible assumption)) | omega | (simp; done) | (simp; omega)))⟩
end Go.Proofs.Ytjgmjnjpgdadhaa
