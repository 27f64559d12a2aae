/- What would be read: the program's answer, whatever goes wrong. -/
import Derived.Test.YtjbfaaolfonmaaaGreatPredOk
import Derived.Test.YtjbfaaolfonmaaaGreatPredErr
import Derived.Test.YtjbfaaolfonmaaaGreatKRefl
import Derived.Test.YtjbfaaolfonmaaaGreatKFit
namespace Go.Proofs.YtjbfaaolfonmaaaGreat
open Go Go.Sort Go.RowKit

theorem conj_to (R : Res) (h : Fine R) (w : World) : Calls Tryz.prog 129 #[.agg #[.complex .f64 (fl R.a) (fl R.b), .int .i64 R.c]] w fun E w' =>
    E = .returned (.tuple #[.agg #[.complex .f64 (fl (cj R).a) (fl (cj R).b), .int .i64 (cj R).c], .int .i64 0]) ∧ Below w.heap.size w w' := by
  have C := Conj_any R.a R.b R.c w h.f1 h.f2
  rw [show conjM R.a R.b R.c = cj R from by unfold cj; rfl, out_quad, cj_good h] at C
  exact C
theorem times_to (R S : Res) (hR : Fine R) (hS : Fine S) (w : World) :
    Calls Tryz.prog 130 #[.agg #[.complex .f64 (fl R.a) (fl R.b), .int .i64 R.c], .agg #[.complex .f64 (fl S.a) (fl S.b), .int .i64 S.c]] w fun E w' =>
      E = .returned (.tuple #[.agg #[.complex .f64 (fl (ti R S).a) (fl (ti R S).b), .int .i64 (ti R S).c], .int .i64 (ti R S).q]) ∧ Below w.heap.size w w' := by
  have C := Times_any R.a R.b R.c S.a S.b S.c w hR.f1 hR.f2 hS.f1 hS.f2
  rw [show timesM R.a R.b R.c S.a S.b S.c = ti R S from by unfold ti; rfl, out_quad] at C
  exact C
theorem energy_to (R : Res) (h : Fine R) (w : World) : Calls Tryz.prog 128 #[.agg #[.complex .f64 (fl R.a) (fl R.b), .int .i64 R.c]] w fun E w' =>
    E = .returned (.tuple #[.agg #[.int .i64 (enRL R), .int .i64 (enRH R)], .int .i64 0]) ∧ Below w.heap.size w w' := by
  unfold enRL enRH
  exact Energy_yes R.a R.b R.c w h.right
theorem askF_ok {wv ix si oi ol : Int} {ls : List Box} {pa : Option Addr} {cap : Nat} (hs : setQ wv ix si = 0) (hb : checkQ ls = 0) (ho : onQ oi ol = 0) (po : Int) (hp : po = 0 ∨ po = 1) : AskOk (askF wv ix si po ls oi ol pa cap) := by
  obtain ⟨s1, s2, s3⟩ := setQ_zero hs
  obtain ⟨b1, b2, b3⟩ := checkQ_zero hb
  obtain ⟨o1, o2⟩ := onQ_zero ho
  exact ⟨s2.1, s2.2, s3.1, Int.le_refl _, s3.2, hp, s1.1, Int.le_refl _, s1.2, b1, Nat.le_trans b3 (by decide), o1.1, o1.2, o2.1, o2.2⟩
theorem reflected_to {wv ix si oi ol po : Int} {ls : List Box} {pa : Option Addr} {cap : Nat} (hA : AskOk (askF wv ix si po ls oi ol pa cap)) (w : World) (hr : Row pa ls w) (hpa : ∀ a, pa = some a → a.block < w.heap.size)
    (R : Res) (hR : ampR (askF wv ix si po ls oi ol pa cap) false = R) (w' : World) (h : Below w.heap.size w w') :
    Calls Tryz.prog 127 #[.agg #[.int .i64 ix, .int .i64 si, .int .i64 si, .int .i64 po, .int .i64 wv, .int .i64 wv, .slice pa ls.length cap, .int .i64 oi, .int .i64 ol]] w' fun E w2 =>
      E = .returned (.tuple #[.agg #[.complex .f64 (fl R.a) (fl R.b), .int .i64 R.c], .int .i64 R.q]) ∧ Below w'.heap.size w' w2 := by
  have C := Reflected_any _ hA w' (hr.bel h) (fun a ha => Nat.lt_of_lt_of_le (hpa a ha) h.size)
  rw [hR, out_quad] at C
  exact C

theorem pred_any (wv ix si oi ol : Int) (ls : List Box) (pa : Option Addr) (cap : Nat) (hs : setQ wv ix si = 0) (hb : checkQ ls = 0) (ho : onQ oi ol = 0) (w : World) (hr : Row pa ls w) :
    Calls Tryz.prog 77 #[.agg #[.int .i64 wv, .int .i64 ix, .int .i64 si], .slice pa ls.length cap, .agg #[.int .i64 oi, .int .i64 ol]] w fun E w' =>
      E = .returned (.tuple #[(seenB wv ix si ls oi ol).val, .int .i64 (seenB wv ix si ls oi ol).q]) ∧ Below w.heap.size w w' := by
  have hpa : ∀ a, pa = some a → a.block < w.heap.size := by
    intro a ha
    have hl := (checkQ_zero hb).2.1
    obtain ⟨a', ha', hlt, _⟩ := hr.get 0 ls[0] (List.getElem?_eq_getElem (by omega))
    rw [ha] at ha'
    cases ha'
    rw [block_add] at hlt
    exact hlt
  have hA0 := askF_ok (pa := pa) (cap := cap) hs hb ho 0 (.inl rfl)
  have hA1 := askF_ok (pa := pa) (cap := cap) hs hb ho 1 (.inr rfl)
  rw [← seenB_at wv ix si ls oi ol pa cap]
  have f0 := fine_amp (askF wv ix si 0 ls oi ol pa cap) false
  have f1 := fine_amp (askF wv ix si 1 ls oi ol pa cap) false
  have RF0 := reflected_to hA0 w hr hpa _ rfl
  have RF1 := reflected_to hA1 w hr hpa _ rfl
  generalize ampR (askF wv ix si 0 ls oi ol pa cap) false = R0 at *
  generalize ampR (askF wv ix si 1 ls oi ol pa cap) false = R1 at *
  by_cases q0 : R0.q = 0
  · have RF0' := RF0
    rw [q0] at RF0'
    by_cases q1 : R1.q = 0
    · have RF1' := RF1
      rw [q1] at RF1'
      have TM := times_to R1 (cj R0) f1 (fine_cj R0)
      have fM := fine_ti R1 (cj R0)
      by_cases q2 : (ti R1 (cj R0)).q = 0
      · have TM' := TM
        rw [q2] at TM'
        have b0 := enR_le f0
        have b1 := enR_le f1
        have rM := fM.right
        by_cases q3 : enRL R0 + enRL R1 = 0
        · rw [seen_e3 q0 q1 q2 q3]
          exact pred_e3 ix si wv oi ol ls.length cap pa R0 R1 (cj R0) (ti R1 (cj R0)) _ _ _ _ w RF0' RF1' (energy_to R0 f0) (energy_to R1 f1) (conj_to R0 f0) TM' _ _ _ _ (fun w => PartsOf_yes _ _ _ w rM) b0 b1 q3
        · rw [seen_ok q0 q1 q2 q3]
          unfold seenM
          refine pred_ok ix si wv oi ol ls.length cap pa R0 R1 (cj R0) (ti R1 (cj R0)) _ _ _ _ w RF0' RF1' (energy_to R0 f0) (energy_to R1 f1) (conj_to R0 f0) TM' _ _ _ _ (fun w => PartsOf_yes _ _ _ w rM) b0 b1 (by omega) ?_
          obtain ⟨⟨x1, x2, y1, y2⟩, r0, r1⟩ := rM
          omega
      · rw [seen_e2 q0 q1 q2]
        exact pred_e2 ix si wv oi ol ls.length cap pa R0 R1 (cj R0) (ti R1 (cj R0)) _ _ _ _ w RF0' RF1' (energy_to R0 f0) (energy_to R1 f1) (conj_to R0 f0) TM q2
    · rw [seen_e1 q0 q1]
      exact pred_e1 ix si wv oi ol ls.length cap pa R0 R1 _ _ w RF0' (energy_to R0 f0) RF1 q1
  · rw [seen_e0 q0]
    exact pred_e0 ix si wv oi ol ls.length cap pa R0 w RF0 q0

/-- What Predicted hands back. -/
@[irreducible] def predM (wv ix si : Int) (ls : List Box) (oi ol : Int) : Seen :=
  if fst3 (setQ wv ix si) (checkQ ls) (onQ oi ol) = 0 then seenB wv ix si ls oi ol else .bad (fst3 (setQ wv ix si) (checkQ ls) (onQ oi ol))
theorem fst3_zero {a b c : Int} (h : fst3 a b c = 0) : a = 0 ∧ b = 0 ∧ c = 0 := by
  unfold fst3 at h
  split at h
  · split at h
    · exact ⟨by assumption, by assumption, h⟩
    · exact absurd h (by assumption)
  · exact absurd h (by assumption)

set_option maxHeartbeats 4000000 in
theorem Predicted_any (wv ix si oi ol : Int) (ls : List Box) (pa : Option Addr) (cap : Nat) (w : World) (hr : Row pa ls w) :
    Calls Tryz.prog 17 #[.agg #[.int .i64 wv, .int .i64 ix, .int .i64 si], .slice pa ls.length cap, .agg #[.int .i64 oi, .int .i64 ol]] w fun E w' =>
      E = .returned (.tuple #[(predM wv ix si ls oi ol).val, .int .i64 (predM wv ix si ls oi ol).q]) ∧ Below w.heap.size w w' := by
  have FE := Lib.hid (fun w' (h : Below w.heap.size w w') => ferr_any pa ls cap w' (hr.bel h))
  by_cases hq : fst3 (setQ wv ix si) (checkQ ls) (onQ oi ol) = 0
  · obtain ⟨q1, q2, q3⟩ := fst3_zero hq
    have PR := fun w' (h : Below w.heap.size w w') => pred_any wv ix si oi ol ls pa cap q1 q2 q3 w' (hr.bel h)
    rw [show predM wv ix si ls oi ol = seenB wv ix si ls oi ol from by unfold predM; rw [if_pos hq]]
    generalize seenB wv ix si ls oi ol = S at *
    obtain ⟨n0, n1, c0, c1, s0, s1, q⟩ := S
    simp only [Seen.val] at PR ⊢
    rw [q1] at hq
    have PR := Lib.hid PR
    have SE := Lib.hid (fun w => settingErr_any wv ix si w)
    have OE := Lib.hid (fun w => onErr_any oi ol w)
    rw [q1] at SE
    rw [q2] at FE
    rw [q3] at OE
    clear hq q1 q2 q3 hr
    go_enter Tryz.func17, Tryz.ntmps17
    go_wp2_with fail
    refine calm 6 (by kernel_rfl) (by kernel_rfl) fun hG => ?_
    have hg_w := hG (w.heap.size) lto
    have hg_wp1 := hG (w.heap.size + 1) lto
    have hg_wp2 := hG (w.heap.size + 1 + 1) lto
    clear hG
    simp only [List.take_succ_cons, List.take_zero, List.drop_succ_cons, List.drop_zero]
    repeat (go_big_quiet_step (first | (go_at_call 74; with_reducible exact calm_call SE.out) | (go_at_call 75; with_reducible exact Calls.regrown_of (FE.out _ (bl_call blw (below_regrown _ _ _)))) | (go_at_call 76; with_reducible exact calm_call OE.out)))
    refine wpQuiet_nil ?_
    intro w1 hb_w1
    clear hg_w hg_wp1 hg_wp2
    have hs_w1 := hb_w1.size
    (try simp at hs_w1)
    obtain ⟨hz_w1_w, hy_w1_w, hx_w1_w, hc_w1_w, hf_w1_w⟩ := bl5 hb_w1 (w.heap.size)
    obtain ⟨hz_w1_wp1, hy_w1_wp1, hx_w1_wp1, hc_w1_wp1, hf_w1_wp1⟩ := bl5 hb_w1 (w.heap.size + 1)
    obtain ⟨hz_w1_wp2, hy_w1_wp2, hx_w1_wp2, hc_w1_wp2, hf_w1_wp2⟩ := bl5 hb_w1 (w.heap.size + 1 + 1)
    go_wp2_with fail
    refine (first3_any _ _ 0 0 0 _ (by go_simp) (by go_simp) (by go_simp)).mono ?_
    rintro e w' ⟨rfl, hw'⟩
    rw [hw', fst3_c]
    clear hw' w'
    go_wp2_with fail
    refine (PR.out _ blw).mono ?_
    rintro e w3 ⟨rfl, hb_w3⟩
    have hs_w3 := hb_w3.size
    (try simp at hs_w3)
    obtain ⟨hz_w3_wp2, hy_w3_wp2, hx_w3_wp2, hc_w3_wp2, hf_w3_wp2⟩ := bl5 hb_w3 (w.heap.size + 1 + 1)
    repeat' (first | go_values | go_skip | go_guarded | go_step | go_upon | (simp only []; go_simp))
    (with_reducible show bodyPost _ _ _ _ _ _); refine bodyPost_ret (by simp [results, Tryz.results17, go_sem, *]; first | done | rfl) rfl ?_
    exact ⟨rfl, blw⟩
  · rw [show predM wv ix si ls oi ol = .bad (fst3 (setQ wv ix si) (checkQ ls) (onQ oi ol)) from by unfold predM; rw [if_neg hq]]
    have SE := Lib.hid (fun w => settingErr_any wv ix si w)
    have OE := Lib.hid (fun w => onErr_any oi ol w)
    generalize setQ wv ix si = a at *
    generalize checkQ ls = b at *
    generalize onQ oi ol = c at *
    obtain ⟨q, hfst⟩ : ∃ q, fst3 a b c = q := ⟨_, rfl⟩
    rw [hfst] at hq ⊢
    have hq1 : (q != 0) = true := by simpa using hq
    have hfst := Lib.hid hfst
    clear hr hq
    simp only [Seen.val, Seen.bad]
    go_enter Tryz.func17, Tryz.ntmps17
    go_wp2_with fail
    refine calm 6 (by kernel_rfl) (by kernel_rfl) fun hG => ?_
    have hg_w := hG (w.heap.size) lto
    have hg_wp1 := hG (w.heap.size + 1) lto
    have hg_wp2 := hG (w.heap.size + 1 + 1) lto
    clear hG
    simp only [List.take_succ_cons, List.take_zero, List.drop_succ_cons, List.drop_zero]
    repeat (go_big_quiet_step (first | (go_at_call 74; with_reducible exact calm_call SE.out) | (go_at_call 75; with_reducible exact Calls.regrown_of (FE.out _ (bl_call blw (below_regrown _ _ _)))) | (go_at_call 76; with_reducible exact calm_call OE.out)))
    refine wpQuiet_nil ?_
    intro w1 hb_w1
    clear hg_w hg_wp1 hg_wp2
    have hs_w1 := hb_w1.size
    (try simp at hs_w1)
    obtain ⟨hz_w1_w, hy_w1_w, hx_w1_w, hc_w1_w, hf_w1_w⟩ := bl5 hb_w1 (w.heap.size)
    obtain ⟨hz_w1_wp1, hy_w1_wp1, hx_w1_wp1, hc_w1_wp1, hf_w1_wp1⟩ := bl5 hb_w1 (w.heap.size + 1)
    obtain ⟨hz_w1_wp2, hy_w1_wp2, hx_w1_wp2, hc_w1_wp2, hf_w1_wp2⟩ := bl5 hb_w1 (w.heap.size + 1 + 1)
    go_wp2_with fail
    refine (first3_any _ _ a b c _ (by go_simp) (by go_simp) (by go_simp)).mono ?_
    rintro e w' ⟨rfl, hw'⟩
    rw [hw', hfst.out]
    clear hw' w'
    repeat' (first | go_values | go_skip | go_guarded | go_step | go_upon | (simp only []; go_simp))
    (with_reducible show bodyPost _ _ _ _ _ _); refine bodyPost_ret (by simp [results, Tryz.results17, go_sem, *]; first | done | rfl) rfl ?_
    exact ⟨rfl, blw⟩
end Go.Proofs.YtjbfaaolfonmaaaGreat
