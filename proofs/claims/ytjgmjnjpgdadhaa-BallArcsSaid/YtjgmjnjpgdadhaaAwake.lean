/- The document's examples, which each statement begins with, are met. -/
import Derived.Test.YtjgmjnjpgdadhaaAwake3
namespace Go.Proofs.Ytjgmjnjpgdadhaa
open Go.RowKit

theorem Times_ex (w : World) :
    Calls Try.prog 16 #[.agg #[.complex .f64 (fl 3) (fl 0), .int .i64 2], .agg #[.complex .f64 (fl 524288) (fl 0), .int .i64 0]] w fun e w' => e = .returned (.tuple #[.agg #[.complex .f64 (fl 2) (fl 0), .int .i64 2], .int .i64 0]) ∧ Below w.heap.size w w' := by
  have h := Times_any 3 0 2 524288 0 0 w (by unfold Flo; omega) (by unfold Flo; omega) (by unfold Flo; omega) (by unfold Flo; omega)
  have e : timesM 3 0 2 524288 0 0 = .good 2 0 2 := by decide +kernel
  rw [e] at h
  exact h

theorem RealRoot_ex (w : World) :
    Calls Try.prog 49 #[.agg #[.int .i64 1048576, .int .i64 4194304]] w fun e w' => e = .returned (.tuple #[.agg #[.complex .f64 (fl 1572864) (fl 0), .int .i64 524288], .int .i64 0]) ∧ Below w.heap.size w w' := by
  have h := RealRoot_pos 1048576 4194304 w (by omega) (by omega) (by omega)
  have e1 : (rt (1048576 * 1048576) + rtu (4194304 * 1048576)) / 2 = 1572864 := by decide +kernel
  have e2 : rtu (4194304 * 1048576) - 1572864 = 524288 := by decide +kernel
  rw [e1, e2] at h
  exact h

theorem SizeOf_ex (w : World) :
    Calls Try.prog 65 #[.agg #[.complex .f64 (fl 3) (fl 4), .int .i64 1]] w fun e w' => e = .returned (.tuple #[.agg #[.int .i64 4, .int .i64 6], .int .i64 0]) ∧ Below w.heap.size w w' := by
  have h := SizeOf_yes 3 4 1 w (by unfold Right Fits; omega)
  have e1 : max 0 (rt (3 * 3 + 4 * 4) - 1) = 4 := by decide +kernel
  have e2 : rtu (3 * 3 + 4 * 4) + 1 = 6 := by decide +kernel
  rw [e1, e2] at h
  exact h

set_option maxRecDepth 100000 in
set_option maxHeartbeats 2000000 in
theorem awake_any (w : World) :
    Calls Try.prog 15 #[] w fun e w' => e = .returned (.bool true) ∧ Below w.heap.size w w' := by
  go_enter Try.func15, Try.ntmps15
  go_wp2_with fail
  refine (bBall_any 3 0 2 _).mono ?_
  rintro e wA ⟨rfl, hbA⟩
  go_wp2_with fail
  refine (bBall_any 524288 0 0 _).mono ?_
  rintro e wB ⟨rfl, hbB⟩
  go_wp2_with fail
  refine (Times_ex _).mono ?_
  rintro e wC ⟨rfl, hbC⟩
  go_wp2_with fail
  refine (bBall_any 3 0 0 _).mono ?_
  rintro e wD ⟨rfl, hbD⟩
  have hz_wD_wC : wC.heap.size < wD.heap.size := (by have hs := hbD.size; (try simp at hs); omega)
  have hy_wD_wC : wC.heap.size < wD.heap.size + 1 := (by omega)
  have hx_wD_wC : wC.heap.size < wD.heap.size + 1 + 1 := (by omega)
  have hc_wD_wC := fun o => hbD.cell (p := ⟨wC.heap.size, o, none⟩) (by first | omega | (simp; done) | (simp; omega))
  have hf_wD_wC := fun o => hbD.frozen (p := ⟨wC.heap.size, o, none⟩) (by first | omega | (simp; done) | (simp; omega))
  go_wp2_with fail
  refine (bBall_any 2097152 0 0 _).mono ?_
  rintro e wE ⟨rfl, hbE⟩
  have hz_wE_wC : wC.heap.size < wE.heap.size := (by have hs := hbE.size; (try simp at hs); omega)
  have hy_wE_wC : wC.heap.size < wE.heap.size + 1 := (by omega)
  have hx_wE_wC : wC.heap.size < wE.heap.size + 1 + 1 := (by omega)
  have hc_wE_wC := fun o => hbE.cell (p := ⟨wC.heap.size, o, none⟩) (by first | omega | (simp; done) | (simp; omega))
  have hf_wE_wC := fun o => hbE.frozen (p := ⟨wC.heap.size, o, none⟩) (by first | omega | (simp; done) | (simp; omega))
  go_wp2_with fail
  refine (Quotient_a _).mono ?_
  rintro e wF ⟨rfl, hbF⟩
  have hz_wF_wC : wC.heap.size < wF.heap.size := (by have hs := hbF.size; (try simp at hs); omega)
  have hy_wF_wC : wC.heap.size < wF.heap.size + 1 := (by omega)
  have hx_wF_wC : wC.heap.size < wF.heap.size + 1 + 1 := (by omega)
  have hc_wF_wC := fun o => hbF.cell (p := ⟨wC.heap.size, o, none⟩) (by first | omega | (simp; done) | (simp; omega))
  have hf_wF_wC := fun o => hbF.frozen (p := ⟨wC.heap.size, o, none⟩) (by first | omega | (simp; done) | (simp; omega))
  go_wp2_with fail
  refine (Arc_eighth _).mono ?_
  rintro e wG ⟨rfl, hbG⟩
  have hz_wG_wC : wC.heap.size < wG.heap.size := (by have hs := hbG.size; (try simp at hs); omega)
  have hy_wG_wC : wC.heap.size < wG.heap.size + 1 := (by omega)
  have hx_wG_wC : wC.heap.size < wG.heap.size + 1 + 1 := (by omega)
  have hc_wG_wC := fun o => hbG.cell (p := ⟨wC.heap.size, o, none⟩) (by first | omega | (simp; done) | (simp; omega))
  have hf_wG_wC := fun o => hbG.frozen (p := ⟨wC.heap.size, o, none⟩) (by first | omega | (simp; done) | (simp; omega))
  have hz_wG_wF : wF.heap.size < wG.heap.size := (by have hs := hbG.size; (try simp at hs); omega)
  have hy_wG_wF : wF.heap.size < wG.heap.size + 1 := (by omega)
  have hx_wG_wF : wF.heap.size < wG.heap.size + 1 + 1 := (by omega)
  have hc_wG_wF := fun o => hbG.cell (p := ⟨wF.heap.size, o, none⟩) (by first | omega | (simp; done) | (simp; omega))
  have hf_wG_wF := fun o => hbG.frozen (p := ⟨wF.heap.size, o, none⟩) (by first | omega | (simp; done) | (simp; omega))
  go_wp2_with fail
  refine (RealRoot_ex _).mono ?_
  rintro e wH ⟨rfl, hbH⟩
  have hz_wH_wC : wC.heap.size < wH.heap.size := (by have hs := hbH.size; (try simp at hs); omega)
  have hy_wH_wC : wC.heap.size < wH.heap.size + 1 := (by omega)
  have hx_wH_wC : wC.heap.size < wH.heap.size + 1 + 1 := (by omega)
  have hc_wH_wC := fun o => hbH.cell (p := ⟨wC.heap.size, o, none⟩) (by first | omega | (simp; done) | (simp; omega))
  have hf_wH_wC := fun o => hbH.frozen (p := ⟨wC.heap.size, o, none⟩) (by first | omega | (simp; done) | (simp; omega))
  have hz_wH_wF : wF.heap.size < wH.heap.size := (by have hs := hbH.size; (try simp at hs); omega)
  have hy_wH_wF : wF.heap.size < wH.heap.size + 1 := (by omega)
  have hx_wH_wF : wF.heap.size < wH.heap.size + 1 + 1 := (by omega)
  have hc_wH_wF := fun o => hbH.cell (p := ⟨wF.heap.size, o, none⟩) (by first | omega | (simp; done) | (simp; omega))
  have hf_wH_wF := fun o => hbH.frozen (p := ⟨wF.heap.size, o, none⟩) (by first | omega | (simp; done) | (simp; omega))
  have hz_wH_wG : wG.heap.size < wH.heap.size := (by have hs := hbH.size; (try simp at hs); omega)
  have hy_wH_wG : wG.heap.size < wH.heap.size + 1 := (by omega)
  have hx_wH_wG : wG.heap.size < wH.heap.size + 1 + 1 := (by omega)
  have hc_wH_wG := fun o => hbH.cell (p := ⟨wG.heap.size, o, none⟩) (by first | omega | (simp; done) | (simp; omega))
  have hf_wH_wG := fun o => hbH.frozen (p := ⟨wG.heap.size, o, none⟩) (by first | omega | (simp; done) | (simp; omega))
  go_wp2_with fail
  refine (bBall_any 3 4 1 _).mono ?_
  rintro e wI ⟨rfl, hbI⟩
  have hz_wI_wC : wC.heap.size < wI.heap.size := (by have hs := hbI.size; (try simp at hs); omega)
  have hy_wI_wC : wC.heap.size < wI.heap.size + 1 := (by omega)
  have hx_wI_wC : wC.heap.size < wI.heap.size + 1 + 1 := (by omega)
  have hc_wI_wC := fun o => hbI.cell (p := ⟨wC.heap.size, o, none⟩) (by first | omega | (simp; done) | (simp; omega))
  have hf_wI_wC := fun o => hbI.frozen (p := ⟨wC.heap.size, o, none⟩) (by first | omega | (simp; done) | (simp; omega))
  have hz_wI_wF : wF.heap.size < wI.heap.size := (by have hs := hbI.size; (try simp at hs); omega)
  have hy_wI_wF : wF.heap.size < wI.heap.size + 1 := (by omega)
  have hx_wI_wF : wF.heap.size < wI.heap.size + 1 + 1 := (by omega)
  have hc_wI_wF := fun o => hbI.cell (p := ⟨wF.heap.size, o, none⟩) (by first | omega | (simp; done) | (simp; omega))
  have hf_wI_wF := fun o => hbI.frozen (p := ⟨wF.heap.size, o, none⟩) (by first | omega | (simp; done) | (simp; omega))
  have hz_wI_wG : wG.heap.size < wI.heap.size := (by have hs := hbI.size; (try simp at hs); omega)
  have hy_wI_wG : wG.heap.size < wI.heap.size + 1 := (by omega)
  have hx_wI_wG : wG.heap.size < wI.heap.size + 1 + 1 := (by omega)
  have hc_wI_wG := fun o => hbI.cell (p := ⟨wG.heap.size, o, none⟩) (by first | omega | (simp; done) | (simp; omega))
  have hf_wI_wG := fun o => hbI.frozen (p := ⟨wG.heap.size, o, none⟩) (by first | omega | (simp; done) | (simp; omega))
  have hz_wI_wH : wH.heap.size < wI.heap.size := (by have hs := hbI.size; (try simp at hs); omega)
  have hy_wI_wH : wH.heap.size < wI.heap.size + 1 := (by omega)
  have hx_wI_wH : wH.heap.size < wI.heap.size + 1 + 1 := (by omega)
  have hc_wI_wH := fun o => hbI.cell (p := ⟨wH.heap.size, o, none⟩) (by first | omega | (simp; done) | (simp; omega))
  have hf_wI_wH := fun o => hbI.frozen (p := ⟨wH.heap.size, o, none⟩) (by first | omega | (simp; done) | (simp; omega))
  go_wp2_with fail
  refine (SizeOf_ex _).mono ?_
  rintro e wJ ⟨rfl, hbJ⟩
  have hz_wJ_wC : wC.heap.size < wJ.heap.size := (by have hs := hbJ.size; (try simp at hs); omega)
  have hy_wJ_wC : wC.heap.size < wJ.heap.size + 1 := (by omega)
  have hx_wJ_wC : wC.heap.size < wJ.heap.size + 1 + 1 := (by omega)
  have hc_wJ_wC := fun o => hbJ.cell (p := ⟨wC.heap.size, o, none⟩) (by first | omega | (simp; done) | (simp; omega))
  have hf_wJ_wC := fun o => hbJ.frozen (p := ⟨wC.heap.size, o, none⟩) (by first | omega | (simp; done) | (simp; omega))
  have hz_wJ_wF : wF.heap.size < wJ.heap.size := (by have hs := hbJ.size; (try simp at hs); omega)
  have hy_wJ_wF : wF.heap.size < wJ.heap.size + 1 := (by omega)
  have hx_wJ_wF : wF.heap.size < wJ.heap.size + 1 + 1 := (by omega)
  have hc_wJ_wF := fun o => hbJ.cell (p := ⟨wF.heap.size, o, none⟩) (by first | omega | (simp; done) | (simp; omega))
  have hf_wJ_wF := fun o => hbJ.frozen (p := ⟨wF.heap.size, o, none⟩) (by first | omega | (simp; done) | (simp; omega))
  have hz_wJ_wG : wG.heap.size < wJ.heap.size := (by have hs := hbJ.size; (try simp at hs); omega)
  have hy_wJ_wG : wG.heap.size < wJ.heap.size + 1 := (by omega)
  have hx_wJ_wG : wG.heap.size < wJ.heap.size + 1 + 1 := (by omega)
  have hc_wJ_wG := fun o => hbJ.cell (p := ⟨wG.heap.size, o, none⟩) (by first | omega | (simp; done) | (simp; omega))
  have hf_wJ_wG := fun o => hbJ.frozen (p := ⟨wG.heap.size, o, none⟩) (by first | omega | (simp; done) | (simp; omega))
  have hz_wJ_wH : wH.heap.size < wJ.heap.size := (by have hs := hbJ.size; (try simp at hs); omega)
  have hy_wJ_wH : wH.heap.size < wJ.heap.size + 1 := (by omega)
  have hx_wJ_wH : wH.heap.size < wJ.heap.size + 1 + 1 := (by omega)
  have hc_wJ_wH := fun o => hbJ.cell (p := ⟨wH.heap.size, o, none⟩) (by first | omega | (simp; done) | (simp; omega))
  have hf_wJ_wH := fun o => hbJ.frozen (p := ⟨wH.heap.size, o, none⟩) (by first | omega | (simp; done) | (simp; omega))
  go_wp2_with fail
  refine calm_all (by kernel_rfl) (by kernel_rfl) fun hG => ?_
  have hg_wC := hG (wC.heap.size) (by first | omega | (simp; done) | (simp; omega))
  have hg_wF := hG (wF.heap.size) (by first | omega | (simp; done) | (simp; omega))
  have hg_wG := hG (wG.heap.size) (by first | omega | (simp; done) | (simp; omega))
  have hg_wH := hG (wH.heap.size) (by first | omega | (simp; done) | (simp; omega))
  have hg_wJ := hG (wJ.heap.size) (by first | omega | (simp; done) | (simp; omega))
  clear hG
  repeat (go_big_quiet_step (first | (go_at_call 29; with_reducible exact calm_call (fun w => bBall_any _ _ _ w)) | (go_at_call 22; with_reducible exact calm_call (fun w => SameBall_same _ _ _ w))))
  refine wpQuiet_nil ?_
  intro wK hb_wK
  clear hg_wC hg_wF hg_wG hg_wH hg_wJ
  have hz_wK_wC : wC.heap.size < wK.heap.size := (by have hs := hb_wK.size; (try simp at hs); omega)
  have hy_wK_wC : wC.heap.size < wK.heap.size + 1 := (by omega)
  have hx_wK_wC : wC.heap.size < wK.heap.size + 1 + 1 := (by omega)
  have hc_wK_wC := fun o => hb_wK.cell (p := ⟨wC.heap.size, o, none⟩) (by first | omega | (simp; done) | (simp; omega))
  have hf_wK_wC := fun o => hb_wK.frozen (p := ⟨wC.heap.size, o, none⟩) (by first | omega | (simp; done) | (simp; omega))
  have hz_wK_wF : wF.heap.size < wK.heap.size := (by have hs := hb_wK.size; (try simp at hs); omega)
  have hy_wK_wF : wF.heap.size < wK.heap.size + 1 := (by omega)
  have hx_wK_wF : wF.heap.size < wK.heap.size + 1 + 1 := (by omega)
  have hc_wK_wF := fun o => hb_wK.cell (p := ⟨wF.heap.size, o, none⟩) (by first | omega | (simp; done) | (simp; omega))
  have hf_wK_wF := fun o => hb_wK.frozen (p := ⟨wF.heap.size, o, none⟩) (by first | omega | (simp; done) | (simp; omega))
  have hz_wK_wG : wG.heap.size < wK.heap.size := (by have hs := hb_wK.size; (try simp at hs); omega)
  have hy_wK_wG : wG.heap.size < wK.heap.size + 1 := (by omega)
  have hx_wK_wG : wG.heap.size < wK.heap.size + 1 + 1 := (by omega)
  have hc_wK_wG := fun o => hb_wK.cell (p := ⟨wG.heap.size, o, none⟩) (by first | omega | (simp; done) | (simp; omega))
  have hf_wK_wG := fun o => hb_wK.frozen (p := ⟨wG.heap.size, o, none⟩) (by first | omega | (simp; done) | (simp; omega))
  have hz_wK_wH : wH.heap.size < wK.heap.size := (by have hs := hb_wK.size; (try simp at hs); omega)
  have hy_wK_wH : wH.heap.size < wK.heap.size + 1 := (by omega)
  have hx_wK_wH : wH.heap.size < wK.heap.size + 1 + 1 := (by omega)
  have hc_wK_wH := fun o => hb_wK.cell (p := ⟨wH.heap.size, o, none⟩) (by first | omega | (simp; done) | (simp; omega))
  have hf_wK_wH := fun o => hb_wK.frozen (p := ⟨wH.heap.size, o, none⟩) (by first | omega | (simp; done) | (simp; omega))
  have hz_wK_wJ : wJ.heap.size < wK.heap.size := (by have hs := hb_wK.size; (try simp at hs); omega)
  have hy_wK_wJ : wJ.heap.size < wK.heap.size + 1 := (by omega)
  have hx_wK_wJ : wJ.heap.size < wK.heap.size + 1 + 1 := (by omega)
  have hc_wK_wJ := fun o => hb_wK.cell (p := ⟨wJ.heap.size, o, none⟩) (by first | omega | (simp; done) | (simp; omega))
  have hf_wK_wJ := fun o => hb_wK.frozen (p := ⟨wJ.heap.size, o, none⟩) (by first | omega | (simp; done) | (simp; omega))
  go_wp2
  go_ret
  exact ⟨rfl, (by repeat' (first | (with_reducible exact Below.refl _ _) | (with_reducible assumption) | (with_reducible refine bl_alloc ?_ _) | (with_reducible refine bl_drew ?_) | (with_reducible refine bl_drewN ?_) | (with_reducible refine bl_setCell ?_ ?_ _) | (with_reducible refine bl_call ?_ (by with_reducible assumption)) | omega | (simp; done) | (simp; omega)))⟩
end Go.Proofs.Ytjgmjnjpgdadhaa
