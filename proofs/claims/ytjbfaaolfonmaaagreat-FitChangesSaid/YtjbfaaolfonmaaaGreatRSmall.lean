/- Fractions in lowest terms: the reference's walk. -/
import Derived.Test.YtjbfaaolfonmaaaGreatKChange
namespace Go.Proofs.YtjbfaaolfonmaaaGreat
open Go Go.Sort Go.RowKit

theorem bsize_any (n : Int) (w : World) (h1 : -4000000000000000000 ≤ n) (h2 : n ≤ 4000000000000000000) :
    Calls Tryz.prog 216 #[.int .i64 n] w fun E w' => E = .returned (.int .i64 (max n (-n))) ∧ w' = w := by
  have W1 : wrap64 (-n) = -n := IntWalk.wrap64_in _ ⟨by omega, by omega⟩
  rcases Int.lt_trichotomy n 0 with h | h | h
  · have e : max n (-n) = -n := by omega
    rw [e]
    clear e
    go_enter Tryz.func216, Tryz.ntmps216
    repeat' (first | go_values | go_skip | go_guarded | go_step | go_upon | (simp only []; go_simp))
    go_ret
    exact ⟨rfl, rfl⟩
  · subst h
    go_enter Tryz.func216, Tryz.ntmps216
    repeat' (first | go_values | go_skip | go_guarded | go_step | go_upon | (simp only []; go_simp))
    go_ret
    exact ⟨rfl, rfl⟩
  · have e : max n (-n) = n := by omega
    rw [e]
    clear e
    go_enter Tryz.func216, Tryz.ntmps216
    repeat' (first | go_values | go_skip | go_guarded | go_step | go_upon | (simp only []; go_simp))
    go_ret
    exact ⟨rfl, rfl⟩

set_option maxHeartbeats 2000000 in
theorem bgcd_any (n d : Int) (d1 : -4000000000000000000 ≤ d) (d2 : d ≤ 4000000000000000000) (h1 : -4000000000000000000 ≤ n) (h2 : n ≤ 4000000000000000000) (w : World) :
    Calls Tryz.prog 184 #[.int .i64 n, .int .i64 d] w fun E w' => E = .returned (.int .i64 (Int.gcd n d)) ∧ Below w.heap.size w w' := by
  generalize hg : (Int.gcd n d : Int) = G
  go_enter Tryz.func184, Tryz.ntmps184
  go_wp2_with fail
  go_loopw [0, 1] (fun u v wr => ∃ a b : Int, u = .int .i64 a ∧ v = .int .i64 b ∧ Hid ((Int.gcd a b : Int) = G) ∧ (-4000000000000000000 ≤ a ∧ a ≤ 4000000000000000000) ∧ (-4000000000000000000 ≤ b ∧ b ≤ 4000000000000000000) ∧ Below w.heap.size w wr) (fun _ v _ => (intOf v).natAbs)
  case atStart => exact ⟨n, d, rfl, rfl, Lib.hid hg, ⟨h1, h2⟩, ⟨d1, d2⟩, blw⟩
  case round =>
    obtain ⟨a, b, rfl, rfl, HG, ⟨a1, a2⟩, ⟨b1, b2⟩, hb_wr⟩ := hrel
    by_cases hb : b = 0
    · subst hb
      have hb1 : ((0 : Int) != 0) = false := by decide
      have ge := HG.out
      rw [gcd_end] at ge
      have SZ := Lib.hid (fun w => bsize_any a w a1 a2)
      rw [ge] at SZ
      clear HG ge hg
      go_wp2_with fail
      refine (SZ.out _).mono ?_
      rintro e w' ⟨rfl, rfl⟩
      repeat' (first | go_values | go_skip | go_guarded | go_step | go_upon | (simp only []; go_simp))
      go_ret
      exact ⟨rfl, blw⟩
    · have hb1 : (b != 0) = true := by simpa using hb
      obtain ⟨⟨m1, m2⟩, m3⟩ := tmod_bd (a := a) hb b1 b2
      have gs : Hid ((Int.gcd b (a.tmod b) : Int) = G) := Lib.hid (by rw [gcd_step]; exact HG.out)
      obtain ⟨r, hr⟩ : ∃ r, a.tmod b = r := ⟨_, rfl⟩
      rw [hr] at m1 m2 m3 gs
      have m3 := Lib.hid m3
      have V1 : wrap64 r = r := IntWalk.wrap64_in _ ⟨by omega, by omega⟩
      have V2 : IntKind.i64.wrap r = r := IntWalk.i64_in _ ⟨by omega, by omega⟩
      clear HG hg
      go_wp2_with fail
      refine calm_all (by kernel_rfl) (by kernel_rfl) fun hG => ?_
      clear hG
      repeat (go_big_quiet_step (first | fail))
      refine wpQuiet_nil ?_
      intro w21 hb_w21
      have hs_w21 := hb_w21.size
      (try simp at hs_w21)
      go_wp2_with fail
      go_roundw
      case rel => exact ⟨b, r, rfl, rfl, gs, ⟨b1, b2⟩, ⟨m1, m2⟩, blw⟩
      case measure => have m3 := m3.out; simp [intOf]; omega

set_option maxHeartbeats 2000000 in
theorem lowest_any (n d : Int) (hd : 1 ≤ d) (hd2 : d ≤ 4000000000000000000) (h1 : -4000000000000000000 ≤ n) (h2 : n ≤ 4000000000000000000) (w : World) :
    Calls Tryz.prog 146 #[.int .i64 n, .int .i64 d] w fun E w' => E = .returned (.agg #[.int .i64 (lowN n d), .int .i64 (lowD n d)]) ∧ Below w.heap.size w w' := by
  have lb := low_bd hd _ h1 h2
  have db := lowD_pos (n := n) (d := d) (by omega)
  have gp := gcd_pos (n := n) (d := d) (by omega)
  obtain ⟨e1, e2⟩ := low_div (n := n) (d := d) _ rfl
  have GC := Lib.hid (fun w => bgcd_any n d (by omega) hd2 h1 h2 w)
  generalize lowN n d = N at *
  generalize lowD n d = D at *
  generalize (Int.gcd n d : Int) = G at *
  have V1 : wrap64 N = N := IntWalk.wrap64_in _ ⟨by omega, by omega⟩
  have V2 : IntKind.i64.wrap N = N := IntWalk.i64_in _ ⟨by omega, by omega⟩
  have V3 : wrap64 D = D := IntWalk.wrap64_in _ ⟨by omega, by omega⟩
  have V4 : IntKind.i64.wrap D = D := IntWalk.i64_in _ ⟨by omega, by omega⟩
  have hG0 : ¬ G = 0 := by omega
  have hd0 : ¬ d < 0 := by omega
  clear gp
  go_enter Tryz.func146, Tryz.ntmps146
  go_wp2_with fail
  refine (GC.out _).mono ?_
  rintro e w1 ⟨rfl, hb_w1⟩
  have hs_w1 := hb_w1.size
  (try simp at hs_w1)
  obtain ⟨hz_w1_w, hy_w1_w, hx_w1_w, hc_w1_w, hf_w1_w⟩ := bl5 hb_w1 (w.heap.size)
  go_wp2_with fail
  refine calm 7 (by kernel_rfl) (by kernel_rfl) fun hG => ?_
  have hg_w := hG (w.heap.size) lto
  clear hG
  simp only [List.take_succ_cons, List.take_zero, List.drop_succ_cons, List.drop_zero]
  repeat (go_big_quiet_step (first | fail))
  refine wpQuiet_nil ?_
  intro w2 hb_w2
  clear hg_w
  have hs_w2 := hb_w2.size
  (try simp at hs_w2)
  obtain ⟨hz_w2_w, hy_w2_w, hx_w2_w, hc_w2_w, hf_w2_w⟩ := bl5 hb_w2 (w.heap.size)
  repeat' (first | go_values | go_skip | go_guarded | go_step | go_upon | (simp only []; go_simp))
  (with_reducible show bodyPost _ _ _ _ _ _); refine bodyPost_ret (by simp [results, Tryz.results146, go_sem, *]; first | done | rfl) rfl ?_
  exact ⟨rfl, blw⟩

theorem isSmall_any (n d : Int) (hd : 1 ≤ lowD n d) (w : World) : Calls Tryz.prog 147 #[.agg #[.int .i64 (lowN n d), .int .i64 (lowD n d)]] w fun E w' => E = .returned (.bool (smallQ n d)) ∧ Below w.heap.size w w' := by
  obtain ⟨t, ht⟩ : ∃ t, inR (lowN n d) (-1000000000) 1000000000 = t := ⟨_, rfl⟩
  obtain ⟨u, hu⟩ : ∃ u, decide (lowD n d ≤ 1000000000) = u := ⟨_, rfl⟩
  rw [smallQ_is ht hu]
  have hv : inR (lowD n d) 1 1000000000 = u := by unfold inR; rw [hu, decide_eq_true hd, Bool.true_and]
  have WI := Lib.hid (fun w => r7within_is _ _ _ t w ht)
  have WJ := Lib.hid (fun w => r7within_is _ _ _ u w hv)
  generalize lowN n d = N at *
  generalize lowD n d = D at *
  clear ht hu hv
  cases t with
  | false =>
    go_enter Tryz.func147, Tryz.ntmps147
    go_wp2_with fail
    refine (WI.out _).mono ?_
    rintro e w' ⟨rfl, rfl⟩
    repeat' (first | go_values | go_skip | go_guarded | go_step | go_upon | (simp only []; go_simp))
    go_ret
    exact ⟨rfl, blw⟩
  | true =>
    go_enter Tryz.func147, Tryz.ntmps147
    go_wp2_with fail
    refine (WI.out _).mono ?_
    rintro e w' ⟨rfl, rfl⟩
    go_wp2_with fail
    refine (WJ.out _).mono ?_
    rintro e w' ⟨rfl, rfl⟩
    repeat' (first | go_values | go_skip | go_guarded | go_step | go_upon | (simp only []; go_simp))
    go_ret
    exact ⟨rfl, blw⟩

/-- What the reference's 'small' hands back. -/
def smallRet (n d : Int) : Value := if smallQ n d = true then .tuple #[.agg #[.int .i64 (lowN n d), .int .i64 (lowD n d)], .int .i64 0] else .tuple #[.agg #[.int .i64 0, .int .i64 0], .int .i64 8]
set_option maxHeartbeats 1000000 in
theorem rsmall_any (n d : Int) (hd : 1 ≤ d) (hd2 : d ≤ 4000000000000000000) (h1 : -4000000000000000000 ≤ n) (h2 : n ≤ 4000000000000000000) (w : World) :
    Calls Tryz.prog 94 #[.int .i64 n, .int .i64 d] w fun E w' => E = .returned (smallRet n d) ∧ Below w.heap.size w w' := by
  have LO := Lib.hid (fun w => lowest_any n d hd hd2 h1 h2 w)
  have db := lowD_pos (n := n) (d := d) (by omega)
  have IS := Lib.hid (fun w => isSmall_any n d db.1 w)
  unfold smallRet
  generalize lowN n d = N at *
  generalize lowD n d = D at *
  generalize smallQ n d = t at *
  cases t with
  | false =>
    rw [if_neg (by simp)]
    go_enter Tryz.func94, Tryz.ntmps94
    go_wp2_with fail
    refine (LO.out _).mono ?_
    rintro e w1 ⟨rfl, hb_w1⟩
    have hs_w1 := hb_w1.size
    (try simp at hs_w1)
    obtain ⟨hz_w1_w, hy_w1_w, hx_w1_w, hc_w1_w, hf_w1_w⟩ := bl5 hb_w1 (w.heap.size)
    go_wp2_with fail
    refine (IS.out _).mono ?_
    rintro e w2 ⟨rfl, hb_w2⟩
    have hs_w2 := hb_w2.size
    (try simp at hs_w2)
    obtain ⟨hz_w2_w, hy_w2_w, hx_w2_w, hc_w2_w, hf_w2_w⟩ := bl5 hb_w2 (w.heap.size)
    repeat' (first | go_values | go_skip | go_guarded | go_step | go_upon | (simp only []; go_simp))
    (with_reducible show bodyPost _ _ _ _ _ _); refine bodyPost_ret (by simp [results, Tryz.results94, go_sem, *]; first | done | rfl) rfl ?_
    exact ⟨rfl, blw⟩
  | true =>
    rw [if_pos rfl]
    go_enter Tryz.func94, Tryz.ntmps94
    go_wp2_with fail
    refine (LO.out _).mono ?_
    rintro e w1 ⟨rfl, hb_w1⟩
    have hs_w1 := hb_w1.size
    (try simp at hs_w1)
    obtain ⟨hz_w1_w, hy_w1_w, hx_w1_w, hc_w1_w, hf_w1_w⟩ := bl5 hb_w1 (w.heap.size)
    go_wp2_with fail
    refine (IS.out _).mono ?_
    rintro e w2 ⟨rfl, hb_w2⟩
    have hs_w2 := hb_w2.size
    (try simp at hs_w2)
    obtain ⟨hz_w2_w, hy_w2_w, hx_w2_w, hc_w2_w, hf_w2_w⟩ := bl5 hb_w2 (w.heap.size)
    obtain ⟨hz_w2_w1, hy_w2_w1, hx_w2_w1, hc_w2_w1, hf_w2_w1⟩ := bl5 hb_w2 (w1.heap.size)
    repeat' (first | go_values | go_skip | go_guarded | go_step | go_upon | (simp only []; go_simp))
    (with_reducible show bodyPost _ _ _ _ _ _); refine bodyPost_ret (by simp [results, Tryz.results94, go_sem, *]; first | done | rfl) rfl ?_
    exact ⟨rfl, blw⟩
end Go.Proofs.YtjbfaaolfonmaaaGreat
