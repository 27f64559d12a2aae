/- Whether a setting tells two boxes apart: the program's walks. -/
import Derived.Test.YtjbfaaolfonmaaaGreatApart
namespace Go.Proofs.YtjbfaaolfonmaaaGreat
open Go Go.Sort Go.RowKit

def pairV (pa pb : Option Addr) (A B : List Box) (ca cb : Nat) : Value := .agg #[.slice pa A.length ca, .slice pb B.length cb]
@[go_sem high] theorem run_pair0 (a b : Value) (w : World) : (Instr.index 46 (.agg #[a, b]) (.int .i64 0)).run Tryz.prog w = .ok a w := by kernel_rfl
@[go_sem high] theorem run_pair1 (a b : Value) (w : World) : (Instr.index 46 (.agg #[a, b]) (.int .i64 1)).run Tryz.prog w = .ok b w := by kernel_rfl

set_option maxHeartbeats 2000000 in
theorem pairErr_any (A B : List Box) (pa pb : Option Addr) (ca cb : Nat) (w : World) (ra : Row pa A w) (rb : Row pb B w) :
    Calls Tryz.prog 102 #[pairV pa pb A B ca cb] w fun E w' => E = .returned (.int .i64 (fst2 (checkQ A) (checkQ B))) ∧ Below w.heap.size w w' := by
  have FA := Lib.hid (fun w' (h : Below w.heap.size w w') => ferr_any pa A ca w' (ra.bel h))
  have FB := Lib.hid (fun w' (h : Below w.heap.size w w') => ferr_any pb B cb w' (rb.bel h))
  unfold pairV
  clear ra rb
  generalize checkQ A = a at *
  generalize checkQ B = b at *
  generalize A.length = n at *
  generalize B.length = m at *
  go_enter Tryz.func102, Tryz.ntmps102
  go_wp2_with fail
  refine calm 6 (by kernel_rfl) (by kernel_rfl) fun hG => ?_
  have hg_w := hG (w.heap.size) lto
  clear hG
  simp only [List.take_succ_cons, List.take_zero, List.drop_succ_cons, List.drop_zero]
  repeat (go_big_quiet_step (first | (go_at_call 75; with_reducible exact Calls.regrown_of (FA.out _ (bl_call blw (below_regrown _ _ _)))) | (go_at_call 75; with_reducible exact Calls.regrown_of (FB.out _ (bl_call blw (below_regrown _ _ _))))))
  refine wpQuiet_nil ?_
  intro w1 hb_w1
  clear hg_w
  have hs_w1 := hb_w1.size
  (try simp at hs_w1)
  obtain ⟨hz_w1_w, hy_w1_w, hx_w1_w, hc_w1_w, hf_w1_w⟩ := bl5 hb_w1 (w.heap.size)
  go_wp2_with fail
  refine (first2_any _ _ a b _ (by go_simp) (by go_simp)).mono ?_
  rintro e w' ⟨rfl, hw'⟩
  rw [hw']
  clear hw' w'
  repeat' (first | go_values | go_skip | go_guarded | go_step | go_upon | (simp only []; go_simp))
  (with_reducible show bodyPost _ _ _ _ _ _); refine bodyPost_ret (by simp [results, Tryz.results102, go_sem, *]; first | done | rfl) rfl ?_
  exact ⟨rfl, blw⟩

set_option maxHeartbeats 2000000 in
theorem tells_any (wv ix si oi ol : Int) (A B : List Box) (pa pb : Option Addr) (ca cb : Nat) (hs : setQ wv ix si = 0) (ha : checkQ A = 0) (hb : checkQ B = 0) (ho : onQ oi ol = 0) (w : World) (ra : Row pa A w) (rb : Row pb B w) :
    Calls Tryz.prog 105 #[.agg #[.int .i64 wv, .int .i64 ix, .int .i64 si], pairV pa pb A B ca cb, .agg #[.int .i64 oi, .int .i64 ol]] w fun E w' => E = .returned (.bool (tellsB wv ix si A B oi ol)) ∧ Below w.heap.size w w' := by
  have PA := fun w' (h : Below w.heap.size w w') => pred_any wv ix si oi ol A pa ca hs ha ho w' (ra.bel h)
  have PB := fun w' (h : Below w.heap.size w w') => pred_any wv ix si oi ol B pb cb hs hb ho w' (rb.bel h)
  have AP := fun w => apart_any (seenB wv ix si A oi ol) (seenB wv ix si B oi ol) w
  unfold pairV tellsB
  generalize seenB wv ix si A oi ol = S at *
  generalize seenB wv ix si B oi ol = T at *
  clear ra rb hs ha hb ho
  generalize A.length = n at *
  generalize B.length = m at *
  generalize apartB S T = t at *
  obtain ⟨a0, a1, b0, b1, c0, c1, q⟩ := S
  obtain ⟨d0, d1, e0, e1, f0, f1, p⟩ := T
  simp only [Seen.val] at PA PB AP ⊢
  have AP := Lib.hid AP
  have PA := Lib.hid PA
  have PB := Lib.hid PB
  by_cases hq : q = 0
  · have q1 : (q == 0) = true := by simpa using hq
    rw [decide_eq_true hq, Bool.true_and]
    clear hq
    by_cases hp : p = 0
    · have p1 : (p == 0) = true := by simpa using hp
      rw [decide_eq_true hp, Bool.true_and]
      clear hp
      go_enter Tryz.func105, Tryz.ntmps105
      go_wp2_with fail
      refine (PA.out _ blw).mono ?_
      rintro e w1 ⟨rfl, hb_w1⟩
      have hs_w1 := hb_w1.size
      (try simp at hs_w1)
      obtain ⟨hz_w1_w, hy_w1_w, hx_w1_w, hc_w1_w, hf_w1_w⟩ := bl5 hb_w1 (w.heap.size)
      obtain ⟨hz_w1_wp1, hy_w1_wp1, hx_w1_wp1, hc_w1_wp1, hf_w1_wp1⟩ := bl5 hb_w1 (w.heap.size + 1)
      obtain ⟨hz_w1_wp2, hy_w1_wp2, hx_w1_wp2, hc_w1_wp2, hf_w1_wp2⟩ := bl5 hb_w1 (w.heap.size + 1 + 1)
      go_wp2_with fail
      refine (PB.out _ blw).mono ?_
      rintro e w2 ⟨rfl, hb_w2⟩
      have hs_w2 := hb_w2.size
      (try simp at hs_w2)
      obtain ⟨hz_w2_w1, hy_w2_w1, hx_w2_w1, hc_w2_w1, hf_w2_w1⟩ := bl5 hb_w2 (w1.heap.size)
      go_wp2_with fail
      refine (AP.out _).mono ?_
      rintro e w3 ⟨rfl, hb_w3⟩
      have hs_w3 := hb_w3.size
      (try simp at hs_w3)
      repeat' (first | go_values | go_skip | go_guarded | go_step | go_upon | (simp only []; go_simp))
      go_ret
      exact ⟨rfl, blw⟩
    · have p1 : (p == 0) = false := by simpa using hp
      rw [decide_eq_false hp, Bool.false_and]
      clear hp
      go_enter Tryz.func105, Tryz.ntmps105
      go_wp2_with fail
      refine (PA.out _ blw).mono ?_
      rintro e w1 ⟨rfl, hb_w1⟩
      have hs_w1 := hb_w1.size
      (try simp at hs_w1)
      obtain ⟨hz_w1_w, hy_w1_w, hx_w1_w, hc_w1_w, hf_w1_w⟩ := bl5 hb_w1 (w.heap.size)
      obtain ⟨hz_w1_wp1, hy_w1_wp1, hx_w1_wp1, hc_w1_wp1, hf_w1_wp1⟩ := bl5 hb_w1 (w.heap.size + 1)
      obtain ⟨hz_w1_wp2, hy_w1_wp2, hx_w1_wp2, hc_w1_wp2, hf_w1_wp2⟩ := bl5 hb_w1 (w.heap.size + 1 + 1)
      go_wp2_with fail
      refine (PB.out _ blw).mono ?_
      rintro e w2 ⟨rfl, hb_w2⟩
      have hs_w2 := hb_w2.size
      (try simp at hs_w2)
      obtain ⟨hz_w2_w1, hy_w2_w1, hx_w2_w1, hc_w2_w1, hf_w2_w1⟩ := bl5 hb_w2 (w1.heap.size)
      repeat' (first | go_values | go_skip | go_guarded | go_step | go_upon | (simp only []; go_simp))
      go_ret
      exact ⟨rfl, blw⟩
  · have q1 : (q == 0) = false := by simpa using hq
    rw [decide_eq_false hq, Bool.false_and]
    clear hq
    go_enter Tryz.func105, Tryz.ntmps105
    go_wp2_with fail
    refine (PA.out _ blw).mono ?_
    rintro e w1 ⟨rfl, hb_w1⟩
    have hs_w1 := hb_w1.size
    (try simp at hs_w1)
    obtain ⟨hz_w1_w, hy_w1_w, hx_w1_w, hc_w1_w, hf_w1_w⟩ := bl5 hb_w1 (w.heap.size)
    obtain ⟨hz_w1_wp1, hy_w1_wp1, hx_w1_wp1, hc_w1_wp1, hf_w1_wp1⟩ := bl5 hb_w1 (w.heap.size + 1)
    obtain ⟨hz_w1_wp2, hy_w1_wp2, hx_w1_wp2, hc_w1_wp2, hf_w1_wp2⟩ := bl5 hb_w1 (w.heap.size + 1 + 1)
    go_wp2_with fail
    refine (PB.out _ blw).mono ?_
    rintro e w2 ⟨rfl, hb_w2⟩
    have hs_w2 := hb_w2.size
    (try simp at hs_w2)
    obtain ⟨hz_w2_w1, hy_w2_w1, hx_w2_w1, hc_w2_w1, hf_w2_w1⟩ := bl5 hb_w2 (w1.heap.size)
    repeat' (first | go_values | go_skip | go_guarded | go_step | go_upon | (simp only []; go_simp))
    go_ret
    exact ⟨rfl, blw⟩

/-- The error of a setting, of two boxes, and of a substrate. -/
@[irreducible] def tellQ (wv ix si : Int) (A B : List Box) (oi ol : Int) : Int := fst3 (setQ wv ix si) (fst2 (checkQ A) (checkQ B)) (onQ oi ol)
theorem fst2_zero {a b : Int} (h : fst2 a b = 0) : a = 0 ∧ b = 0 := by
  unfold fst2 at h
  split at h
  · exact ⟨by assumption, h⟩
  · exact absurd h (by assumption)
theorem tellQ_zero {wv ix si oi ol : Int} {A B : List Box} (h : tellQ wv ix si A B oi ol = 0) : setQ wv ix si = 0 ∧ checkQ A = 0 ∧ checkQ B = 0 ∧ onQ oi ol = 0 := by
  unfold tellQ at h
  obtain ⟨h1, h2, h3⟩ := fst3_zero h
  obtain ⟨h4, h5⟩ := fst2_zero h2
  exact ⟨h1, h4, h5, h3⟩
/-- What Tells hands back where nothing is wrong. -/
@[irreducible] def tellA (t : Bool) : Int := if t = true then 2 else 1

set_option maxHeartbeats 4000000 in
theorem Tells_ok (wv ix si oi ol : Int) (A B : List Box) (pa pb : Option Addr) (ca cb : Nat) (hs : setQ wv ix si = 0) (ha : checkQ A = 0) (hb : checkQ B = 0) (ho : onQ oi ol = 0) (w : World) (ra : Row pa A w) (rb : Row pb B w) :
    Calls Tryz.prog 43 #[.agg #[.int .i64 wv, .int .i64 ix, .int .i64 si], pairV pa pb A B ca cb, .agg #[.int .i64 oi, .int .i64 ol]] w fun E w' => E = .returned (.tuple #[.int .i64 (tellA (tellsB wv ix si A B oi ol)), .int .i64 0]) ∧ Below w.heap.size w w' := by
  have TE := fun w' (h : Below w.heap.size w w') => tells_any wv ix si oi ol A B pa pb ca cb hs ha hb ho w' (ra.bel h) (rb.bel h)
  have PE := fun w' (h : Below w.heap.size w w') => pairErr_any A B pa pb ca cb w' (ra.bel h) (rb.bel h)
  have SE := fun w => settingErr_any wv ix si w
  have OE := fun w => onErr_any oi ol w
  rw [ha, hb, fst2_b] at PE
  rw [hs] at SE
  rw [ho] at OE
  have e : tellA (tellsB wv ix si A B oi ol) = if tellsB wv ix si A B oi ol = true then 2 else 1 := by unfold tellA; rfl
  rw [e]
  clear ra rb hs ha hb ho e
  generalize tellsB wv ix si A B oi ol = t at *
  unfold pairV at *
  generalize A.length = n at *
  generalize B.length = m at *
  have TE := Lib.hid TE
  have PE := Lib.hid PE
  have SE := Lib.hid SE
  have OE := Lib.hid OE
  cases t
  case true =>
    rw [if_pos rfl]
    go_enter Tryz.func43, Tryz.ntmps43
    go_wp2_with fail
    refine calm 6 (by kernel_rfl) (by kernel_rfl) fun hG => ?_
    have hg_w := hG (w.heap.size) lto
    have hg_wp1 := hG (w.heap.size + 1) lto
    have hg_wp2 := hG (w.heap.size + 1 + 1) lto
    clear hG
    simp only [List.take_succ_cons, List.take_zero, List.drop_succ_cons, List.drop_zero]
    repeat (go_big_quiet_step (first | (go_at_call 74; with_reducible exact calm_call SE.out) | (go_at_call 102; with_reducible exact Calls.regrown_of (PE.out _ (bl_call blw (below_regrown _ _ _)))) | (go_at_call 76; with_reducible exact calm_call OE.out)))
    refine wpQuiet_nil ?_
    intro w1 hb_w1
    clear hg_w hg_wp1 hg_wp2
    have hs_w1 := hb_w1.size
    (try simp at hs_w1)
    obtain ⟨hz_w1_w, hy_w1_w, hx_w1_w, hc_w1_w, hf_w1_w⟩ := bl5 hb_w1 (w.heap.size)
    obtain ⟨hz_w1_wp1, hy_w1_wp1, hx_w1_wp1, hc_w1_wp1, hf_w1_wp1⟩ := bl5 hb_w1 (w.heap.size + 1)
    obtain ⟨hz_w1_wp2, hy_w1_wp2, hx_w1_wp2, hc_w1_wp2, hf_w1_wp2⟩ := bl5 hb_w1 (w.heap.size + 1 + 1)
    go_wp2_with fail
    refine (first3_any _ _ 0 0 0 _ (by go_simp) (by go_simp) (by go_simp)).mono ?_
    rintro e w' ⟨rfl, hw'⟩
    rw [hw', fst3_c]
    clear hw' w'
    go_wp2_with fail
    refine (TE.out _ blw).mono ?_
    rintro e w3 ⟨rfl, hb_w3⟩
    have hs_w3 := hb_w3.size
    (try simp at hs_w3)
    repeat' (first | go_values | go_skip | go_guarded | go_step | go_upon | (simp only []; go_simp))
    go_ret2
    exact ⟨rfl, blw⟩
  case false =>
    rw [if_neg (by simp)]
    go_enter Tryz.func43, Tryz.ntmps43
    go_wp2_with fail
    refine calm 6 (by kernel_rfl) (by kernel_rfl) fun hG => ?_
    have hg_w := hG (w.heap.size) lto
    have hg_wp1 := hG (w.heap.size + 1) lto
    have hg_wp2 := hG (w.heap.size + 1 + 1) lto
    clear hG
    simp only [List.take_succ_cons, List.take_zero, List.drop_succ_cons, List.drop_zero]
    repeat (go_big_quiet_step (first | (go_at_call 74; with_reducible exact calm_call SE.out) | (go_at_call 102; with_reducible exact Calls.regrown_of (PE.out _ (bl_call blw (below_regrown _ _ _)))) | (go_at_call 76; with_reducible exact calm_call OE.out)))
    refine wpQuiet_nil ?_
    intro w1 hb_w1
    clear hg_w hg_wp1 hg_wp2
    have hs_w1 := hb_w1.size
    (try simp at hs_w1)
    obtain ⟨hz_w1_w, hy_w1_w, hx_w1_w, hc_w1_w, hf_w1_w⟩ := bl5 hb_w1 (w.heap.size)
    obtain ⟨hz_w1_wp1, hy_w1_wp1, hx_w1_wp1, hc_w1_wp1, hf_w1_wp1⟩ := bl5 hb_w1 (w.heap.size + 1)
    obtain ⟨hz_w1_wp2, hy_w1_wp2, hx_w1_wp2, hc_w1_wp2, hf_w1_wp2⟩ := bl5 hb_w1 (w.heap.size + 1 + 1)
    go_wp2_with fail
    refine (first3_any _ _ 0 0 0 _ (by go_simp) (by go_simp) (by go_simp)).mono ?_
    rintro e w' ⟨rfl, hw'⟩
    rw [hw', fst3_c]
    clear hw' w'
    go_wp2_with fail
    refine (TE.out _ blw).mono ?_
    rintro e w3 ⟨rfl, hb_w3⟩
    have hs_w3 := hb_w3.size
    (try simp at hs_w3)
    repeat' (first | go_values | go_skip | go_guarded | go_step | go_upon | (simp only []; go_simp))
    go_ret2
    exact ⟨rfl, blw⟩
end Go.Proofs.YtjbfaaolfonmaaaGreat

