/- The statement on a further setting: its walk. -/
import Derived.Test.YtjbfaaolfonmaaaGreatStep
namespace Go.Proofs.YtjbfaaolfonmaaaGreat
open Go Go.Sort Go.RowKit

set_option maxRecDepth 100000 in
set_option maxHeartbeats 64000000 in
theorem furtherAngle_any (p : Option Addr) (n cp : Nat) (Z : Nat → Nat → Int) (A B : List Box) (pa pb : Option Addr) (ca cb : Nat) (oi ol : Int) (hp : p = none → n = 0 ∧ cp = 0) (ha : pa = none → A.length = 0 ∧ ca = 0) (hb : pb = none → B.length = 0 ∧ cb = 0) (w : World) (hz : Zs p n 3 Z w) (ra : Row pa A w) (rb : Row pb B w) :
    Calls Tryz.prog 14 #[.slice p n cp, pairV pa pb A B ca cb, .agg #[.int .i64 oi, .int .i64 ol]] w fun E w' => E = .returned (.bool true) ∧ Below w.heap.size w w' := by
  by_cases h1 : 2 < n
  · have h1' : (2 : Int) < n := by omega
    unfold pairV
    clear hz ra rb hp ha hb
    generalize A.length = la at *
    generalize B.length = lb at *
    go_enter Tryz.func14, Tryz.ntmps14
    go_wp2_with fail
    refine (fitReady_any _).mono ?_
    rintro e w1 ⟨rfl, hb_w1⟩
    have hs_w1 := hb_w1.size
    (try simp at hs_w1)
    obtain ⟨hz_w1_w, hy_w1_w, hx_w1_w, hc_w1_w, hf_w1_w⟩ := bl5 hb_w1 (w.heap.size)
    repeat' (first | go_values | go_skip | go_guarded | go_step | go_upon | (simp only []; go_simp))
    go_ret
    exact ⟨rfl, blw⟩
  have h1' : ¬ ((2 : Int) < n) := by omega
  by_cases h2 : 2 < A.length
  · have h2' : (2 : Int) < A.length := by omega
    unfold pairV
    clear hz ra rb hp ha hb
    generalize A.length = la at *
    generalize B.length = lb at *
    go_enter Tryz.func14, Tryz.ntmps14
    go_wp2_with fail
    refine (fitReady_any _).mono ?_
    rintro e w1 ⟨rfl, hb_w1⟩
    have hs_w1 := hb_w1.size
    (try simp at hs_w1)
    obtain ⟨hz_w1_w, hy_w1_w, hx_w1_w, hc_w1_w, hf_w1_w⟩ := bl5 hb_w1 (w.heap.size)
    repeat' (first | go_values | go_skip | go_guarded | go_step | go_upon | (simp only []; go_simp))
    go_ret
    exact ⟨rfl, blw⟩
  have h2' : ¬ ((2 : Int) < A.length) := by omega
  by_cases h3 : 2 < B.length
  · have h3' : (2 : Int) < B.length := by omega
    unfold pairV
    clear hz ra rb hp ha hb
    generalize A.length = la at *
    generalize B.length = lb at *
    go_enter Tryz.func14, Tryz.ntmps14
    go_wp2_with fail
    refine (fitReady_any _).mono ?_
    rintro e w1 ⟨rfl, hb_w1⟩
    have hs_w1 := hb_w1.size
    (try simp at hs_w1)
    obtain ⟨hz_w1_w, hy_w1_w, hx_w1_w, hc_w1_w, hf_w1_w⟩ := bl5 hb_w1 (w.heap.size)
    repeat' (first | go_values | go_skip | go_guarded | go_step | go_upon | (simp only []; go_simp))
    go_ret
    exact ⟨rfl, blw⟩
  have h3' : ¬ ((2 : Int) < B.length) := by omega
  have CP := Lib.hid (fun w' (h : Below w.heap.size w w') => copyPair_any A B pa pb ca cb ha hb (by omega) (by omega) w' (ra.bel h) (rb.bel h))
  have CA := Lib.hid (fun w' (h : Below w.heap.size w w') => copy_all pa A ca ha (by omega) w' (ra.bel h))
  have CB := Lib.hid (fun w' (h : Below w.heap.size w w') => copy_all pb B cb hb (by omega) w' (rb.bel h))
  have FT := Lib.hid (fun p1 c1 g cg h ch w' h1 h2 h3 => FirstTelling_any p1 n c1 Z A B (some ⟨g, 0, none⟩) (some ⟨h, 0, none⟩) cg ch oi ol (by omega) w' h1 h2 h3)
  have TL := Lib.hid (fun (qa : checkQ A = 0) (qb : checkQ B = 0) (qo : onQ oi ol = 0) j (qj : setQ (Z j 0) (Z j 1) (Z j 2) = 0) g cg h ch w' h1 h2 => Tells_ok (Z j 0) (Z j 1) (Z j 2) oi ol A B (some ⟨g, 0, none⟩) (some ⟨h, 0, none⟩) cg ch qj qa qb qo w' h1 h2)
  have PM := Lib.hid (fun (ls : List Box) j g c w' h => Predicted_any (Z j 0) (Z j 1) (Z j 2) oi ol ls (some ⟨g, 0, none⟩) c w' h)
  unfold PairRet at CP
  unfold pairV at *
  have HZ := Lib.hid hz
  clear hz ra rb ha hb
  obtain ⟨la, hla⟩ : ∃ q, A.length = q := ⟨_, rfl⟩
  obtain ⟨lb, hlb⟩ : ∃ q, B.length = q := ⟨_, rfl⟩
  rw [hla] at CP CA FT TL h2' ⊢
  rw [hlb] at CP CB FT TL h3' ⊢
  have HL := Lib.hid (And.intro hla hlb)
  clear hla hlb h2 h3
  cases p with
  | none =>
    obtain ⟨rfl, rfl⟩ := hp rfl
    clear hp
    go_enter Tryz.func14, Tryz.ntmps14
    go_wp2_with fail
    refine (fitReady_any _).mono ?_
    rintro e w0 ⟨rfl, hb_w0⟩
    have b0_w0 : w0.cell? ⟨w.heap.size, 0, none⟩ = some (.slice pa la ca) := keepC hb_w0 (by go_simp)
    have b1_w0 : w0.cell? ⟨w.heap.size, 1, none⟩ = some (.slice pb lb cb) := keepC hb_w0 (by go_simp)
    have b2_w0 : w0.cell? ⟨w.heap.size + 1, 0, none⟩ = some (.int .i64 oi) := keepC hb_w0 (by go_simp)
    have b3_w0 : w0.cell? ⟨w.heap.size + 1, 1, none⟩ = some (.int .i64 ol) := keepC hb_w0 (by go_simp)
    have l_w0 := World.block_lt_of_cell? _ _ b2_w0
    simp only at l_w0
    have m_w0 : w.heap.size < w0.heap.size := (by omega)
    have m1_w0 : w.heap.size < w0.heap.size + 1 := (by omega)
    have m2_w0 : w.heap.size + 1 < w0.heap.size + 1 := (by omega)
    have n_w0 : ¬ w.heap.size = w0.heap.size := (by omega)
    have n1_w0 : ¬ w.heap.size + 1 = w0.heap.size := (by omega)
    go_wp2_with fail
    (go_region_held3 (fun w' => w'.cell? ⟨w.heap.size, 0, none⟩ = some (.slice pa la ca) ∧ w'.cell? ⟨w.heap.size, 1, none⟩ = some (.slice pb lb cb) ∧ w'.cell? ⟨w.heap.size + 1, 0, none⟩ = some (.int .i64 oi) ∧ w'.cell? ⟨w.heap.size + 1, 1, none⟩ = some (.int .i64 ol)) (simp [*, go_sem])
      (first
        | (go_at_call 41; (with_reducible refine (CP.out _ ?_).mono ?_); (· exact blw); rintro E w2 ⟨g, cg, h, ch, rfl, hA, hB, hb_w2⟩; have b0_w2 : w2.cell? ⟨w.heap.size, 0, none⟩ = some (.slice pa la ca) := keepC hb_w2 (by go_simp); have b1_w2 : w2.cell? ⟨w.heap.size, 1, none⟩ = some (.slice pb lb cb) := keepC hb_w2 (by go_simp); have b2_w2 : w2.cell? ⟨w.heap.size + 1, 0, none⟩ = some (.int .i64 oi) := keepC hb_w2 (by go_simp); have b3_w2 : w2.cell? ⟨w.heap.size + 1, 1, none⟩ = some (.int .i64 ol) := keepC hb_w2 (by go_simp); have l_w2 := World.block_lt_of_cell? _ _ b2_w2; simp only at l_w2; have m_w2 : w.heap.size < w2.heap.size := (by omega); have m1_w2 : w.heap.size < w2.heap.size + 1 := (by omega); have m2_w2 : w.heap.size + 1 < w2.heap.size + 1 := (by omega); have n_w2 : ¬ w.heap.size = w2.heap.size := (by omega); have n1_w2 : ¬ w.heap.size + 1 = w2.heap.size := (by omega); have hA := Lib.hid hA; have hB := Lib.hid hB)
        | (go_at_call 40; refine (FT.out (some ⟨w0.heap.size, 0, none⟩) 0 g cg h ch _ ⟨fun i hi => by omega⟩ hA.out hB.out).mono ?_; unfold FirstRet; rintro E w3 ⟨r, e, rfl, hre, hb_w3⟩; have b0_w3 : w3.cell? ⟨w.heap.size, 0, none⟩ = some (.slice pa la ca) := keepC hb_w3 (by go_simp); have b1_w3 : w3.cell? ⟨w.heap.size, 1, none⟩ = some (.slice pb lb cb) := keepC hb_w3 (by go_simp); have b2_w3 : w3.cell? ⟨w.heap.size + 1, 0, none⟩ = some (.int .i64 oi) := keepC hb_w3 (by go_simp); have b3_w3 : w3.cell? ⟨w.heap.size + 1, 1, none⟩ = some (.int .i64 ol) := keepC hb_w3 (by go_simp); have l_w3 := World.block_lt_of_cell? _ _ b2_w3; simp only at l_w3; have m_w3 : w.heap.size < w3.heap.size := (by omega); have m1_w3 : w.heap.size < w3.heap.size + 1 := (by omega); have m2_w3 : w.heap.size + 1 < w3.heap.size + 1 := (by omega); have n_w3 : ¬ w.heap.size = w3.heap.size := (by omega); have n1_w3 : ¬ w.heap.size + 1 = w3.heap.size := (by omega); have hre := Lib.hid hre)
      ))
    clear b0_w0 b1_w0 b2_w0 b3_w0 b0_w2 b1_w2 b2_w2 b3_w2 hA hB
    rcases hre.out with ⟨he, rfl⟩ | ⟨rfl, i, rfl, hT⟩
    · have he1 : (e != 0) = true := by simpa using he
      clear hre he
      repeat' (first | go_values | go_skip | go_guarded | go_step | go_upon | (simp only []; go_simp))
      go_ret
      exact ⟨rfl, blw⟩
    · exfalso
      have := hT.1
      omega
  | some a =>
    obtain ⟨ii, hi0, hi1, hi2, hi3⟩ := setting_row
    have e1 : 0 + n ≤ maxLen := by unfold maxLen; omega
    have e2 : (0 + n) * 24 ≤ 140737488355328 := by omega
    have HC := Lib.hid (And.intro (flat3_len Z n) (And.intro e1 e2))
    clear e1 e2
    clear hp
    go_enter Tryz.func14, Tryz.ntmps14
    go_wp2_with fail
    refine (fitReady_any _).mono ?_
    rintro e w0 ⟨rfl, hb_w0⟩
    have b0_w0 : w0.cell? ⟨w.heap.size, 0, none⟩ = some (.slice pa la ca) := keepC hb_w0 (by go_simp)
    have b1_w0 : w0.cell? ⟨w.heap.size, 1, none⟩ = some (.slice pb lb cb) := keepC hb_w0 (by go_simp)
    have b2_w0 : w0.cell? ⟨w.heap.size + 1, 0, none⟩ = some (.int .i64 oi) := keepC hb_w0 (by go_simp)
    have b3_w0 : w0.cell? ⟨w.heap.size + 1, 1, none⟩ = some (.int .i64 ol) := keepC hb_w0 (by go_simp)
    have l_w0 := World.block_lt_of_cell? _ _ b2_w0
    simp only at l_w0
    have m_w0 : w.heap.size < w0.heap.size := (by omega)
    have m1_w0 : w.heap.size < w0.heap.size + 1 := (by omega)
    have m2_w0 : w.heap.size + 1 < w0.heap.size + 1 := (by omega)
    have n_w0 : ¬ w.heap.size = w0.heap.size := (by omega)
    have n1_w0 : ¬ w.heap.size + 1 = w0.heap.size := (by omega)
    go_wp2_with fail
    (go_region_held3 (fun w' => w'.cell? ⟨w.heap.size, 0, none⟩ = some (.slice pa la ca) ∧ w'.cell? ⟨w.heap.size, 1, none⟩ = some (.slice pb lb cb) ∧ w'.cell? ⟨w.heap.size + 1, 0, none⟩ = some (.int .i64 oi) ∧ w'.cell? ⟨w.heap.size + 1, 1, none⟩ = some (.int .i64 ol)) (simp [*, go_sem])
      (first
        | (refine step_append_own rfl _ _ 88 rfl w0.heap.size 25 ii _ 3 24 Tryz.underlying88 hi0 hi1 hi2 hi3 rfl (by decide) _ 0 [] rfl (made_row (by first | rfl | (simp; done)) (by first | exact Nat.le_refl _ | (simp; done) | (simp; omega))) a n cp (flat3 Z n) rfl HC.out.1 (HZ.out.bel (show Below w.heap.size w _ from blw)).cells3 (flat3_one _ _) HC.out.2.1 HC.out.2.2 (by first | (simp; done) | (simp; omega)) ?_; intro V w1 hown hgrow; obtain ⟨p1, c1, rfl, hz1⟩ := zs_own3 hown; have hb_w1 : Below w0.heap.size w0 w1 := (show Below w0.heap.size w0 _ from blw).grown hgrow (by first | (simp; done) | (simp; omega)) (fun b hb => by cases hb; first | exact Nat.le_refl _ | (simp; done) | (simp; omega)); have b0_w1 : w1.cell? ⟨w.heap.size, 0, none⟩ = some (.slice pa la ca) := hgrow.cell (by go_simp) (by intro e; injection e with e; first | omega | (simp at e; omega)); have b1_w1 : w1.cell? ⟨w.heap.size, 1, none⟩ = some (.slice pb lb cb) := hgrow.cell (by go_simp) (by intro e; injection e with e; first | omega | (simp at e; omega)); have b2_w1 : w1.cell? ⟨w.heap.size + 1, 0, none⟩ = some (.int .i64 oi) := hgrow.cell (by go_simp) (by intro e; injection e with e; first | omega | (simp at e; omega)); have b3_w1 : w1.cell? ⟨w.heap.size + 1, 1, none⟩ = some (.int .i64 ol) := hgrow.cell (by go_simp) (by intro e; injection e with e; first | omega | (simp at e; omega)); have l_w1 := World.block_lt_of_cell? _ _ b2_w1; simp only at l_w1; have m_w1 : w.heap.size < w1.heap.size := (by omega); have m1_w1 : w.heap.size < w1.heap.size + 1 := (by omega); have m2_w1 : w.heap.size + 1 < w1.heap.size + 1 := (by omega); have n_w1 : ¬ w.heap.size = w1.heap.size := (by omega); have n1_w1 : ¬ w.heap.size + 1 = w1.heap.size := (by omega); have hz1 := Lib.hid hz1; clear hown hgrow)
        | (go_at_call 41; (with_reducible refine (CP.out _ ?_).mono ?_); (· exact blw); rintro E w2 ⟨g, cg, h, ch, rfl, hA, hB, hb_w2⟩; have b0_w2 : w2.cell? ⟨w.heap.size, 0, none⟩ = some (.slice pa la ca) := keepC hb_w2 (by go_simp); have b1_w2 : w2.cell? ⟨w.heap.size, 1, none⟩ = some (.slice pb lb cb) := keepC hb_w2 (by go_simp); have b2_w2 : w2.cell? ⟨w.heap.size + 1, 0, none⟩ = some (.int .i64 oi) := keepC hb_w2 (by go_simp); have b3_w2 : w2.cell? ⟨w.heap.size + 1, 1, none⟩ = some (.int .i64 ol) := keepC hb_w2 (by go_simp); have l_w2 := World.block_lt_of_cell? _ _ b2_w2; simp only at l_w2; have m_w2 : w.heap.size < w2.heap.size := (by omega); have m1_w2 : w.heap.size < w2.heap.size + 1 := (by omega); have m2_w2 : w.heap.size + 1 < w2.heap.size + 1 := (by omega); have n_w2 : ¬ w.heap.size = w2.heap.size := (by omega); have n1_w2 : ¬ w.heap.size + 1 = w2.heap.size := (by omega); have hA := Lib.hid hA; have hB := Lib.hid hB)
        | (go_at_call 40; refine (FT.out p1 c1 g cg h ch _ (hz1.out.bel (show Below w1.heap.size w1 w2 from blw)) hA.out hB.out).mono ?_; unfold FirstRet; rintro E w3 ⟨r, e, rfl, hre, hb_w3⟩; have b0_w3 : w3.cell? ⟨w.heap.size, 0, none⟩ = some (.slice pa la ca) := keepC hb_w3 (by go_simp); have b1_w3 : w3.cell? ⟨w.heap.size, 1, none⟩ = some (.slice pb lb cb) := keepC hb_w3 (by go_simp); have b2_w3 : w3.cell? ⟨w.heap.size + 1, 0, none⟩ = some (.int .i64 oi) := keepC hb_w3 (by go_simp); have b3_w3 : w3.cell? ⟨w.heap.size + 1, 1, none⟩ = some (.int .i64 ol) := keepC hb_w3 (by go_simp); have l_w3 := World.block_lt_of_cell? _ _ b2_w3; simp only at l_w3; have m_w3 : w.heap.size < w3.heap.size := (by omega); have m1_w3 : w.heap.size < w3.heap.size + 1 := (by omega); have m2_w3 : w.heap.size + 1 < w3.heap.size + 1 := (by omega); have n_w3 : ¬ w.heap.size = w3.heap.size := (by omega); have n1_w3 : ¬ w.heap.size + 1 = w3.heap.size := (by omega); have hre := Lib.hid hre)
      ))
    clear b0_w0 b1_w0 b2_w0 b3_w0 b0_w2 b1_w2 b2_w2 b3_w2 hA hB hz1 b0_w1 b1_w1 b2_w1 b3_w1 hi0 hi1 hi2 hi3 HC
    rcases hre.out with ⟨he, rfl⟩ | ⟨rfl, i, rfl, hT⟩
    · have he1 : (e != 0) = true := by simpa using he
      clear hre he
      repeat' (first | go_values | go_skip | go_guarded | go_step | go_upon | (simp only []; go_simp))
      go_ret
      exact ⟨rfl, blw⟩
    · obtain ⟨hin, hset, qa, qb, qo, hyes, hno⟩ := hT
      clear hre
      have qi := hset i hin
      obtain ⟨sA, sB, hap⟩ := tells_yes hyes
      have TL := Lib.hid (fun j (hj : j < i) => TL.out qa qb qo j (hset j (by omega)))
      have TN := Lib.hid (fun j (hj : j < i) => show tellA (tellsB (Z j 0) (Z j 1) (Z j 2) A B oi ol) = 1 from by rw [hno j hj]; unfold tellA; rfl)
      have okA := seenB_ok (Z i 0) (Z i 1) (Z i 2) A oi ol
      have okB := seenB_ok (Z i 0) (Z i 1) (Z i 2) B oi ol
      have PA := fun g c w' h => PM.out A i g c w' h
      have PB := fun g c w' h => PM.out B i g c w' h
      rw [predM_good qi qa qo, sA] at PA
      rw [predM_good qi qb qo, sB] at PB
      have apA : apartB (seenB (Z i 0) (Z i 1) (Z i 2) A oi ol) (seenB (Z i 0) (Z i 1) (Z i 2) B oi ol) = true := hap
      have apB : apartB (seenB (Z i 0) (Z i 1) (Z i 2) B oi ol) (seenB (Z i 0) (Z i 1) (Z i 2) A oi ol) = true := (apart_symm _ _).trans hap
      have XA := fun g c r cr w' h1 h2 => Explains_yes (Z i 0) (Z i 1) (Z i 2) oi ol A (some ⟨g, 0, none⟩) c r cr _ rfl sA qi qa qo w' h1 h2
      have XB := fun g c r cr w' h1 h2 => Explains_yes (Z i 0) (Z i 1) (Z i 2) oi ol B (some ⟨g, 0, none⟩) c r cr _ rfl sB qi qb qo w' h1 h2
      have RA := fun g c r cr w' h1 h2 => Refuting_zero (Z i 0) (Z i 1) (Z i 2) oi ol A (some ⟨g, 0, none⟩) c r cr (seenB (Z i 0) (Z i 1) (Z i 2) B oi ol) _ rfl sA okB apA (apart_not_inside okA okB apA) qi qa qo w' h1 h2
      have RB := fun g c r cr w' h1 h2 => Refuting_zero (Z i 0) (Z i 1) (Z i 2) oi ol B (some ⟨g, 0, none⟩) c r cr (seenB (Z i 0) (Z i 1) (Z i 2) A oi ol) _ rfl sB okA apB (apart_not_inside okB okA apB) qi qb qo w' h1 h2
      unfold taskV at XA XB RA RB
      rw [HL.out.1] at PA XA RA
      rw [HL.out.2] at PB XB RB
      generalize seenB (Z i 0) (Z i 1) (Z i 2) A oi ol = SA at *
      generalize seenB (Z i 0) (Z i 1) (Z i 2) B oi ol = SB at *
      clear okA okB apA apB hap sA sB hyes hno hset qa qb qo FT PM
      have PA := Lib.hid PA
      have PB := Lib.hid PB
      have XA := Lib.hid XA
      have XB := Lib.hid XB
      have RA := Lib.hid RA
      have RB := Lib.hid RB
      have WI := Lib.hid (fun w => r7within_is (i : Int) 0 ((n : Int) - 1) true w (inR_yes.2 ⟨by omega, by omega⟩))
      have wn : wrap64 ((n : Int) - 1) = n - 1 := IntWalk.wrap64_in _ ⟨by omega, by omega⟩
      have HI := Lib.hid (And.intro hin qi)
      clear qi
      go_wp2_with fail
      refine (WI.out _).mono ?_
      rintro e w' ⟨rfl, hw'⟩
      rw [hw']
      clear hw' w'
      go_wp2_with fail
      go_loopw [9] (fun u wr => ∃ k : Nat, k ≤ i ∧ u = .int .i64 k ∧ Below w3.heap.size w3 wr) (fun u _ => i - (intOf u).toNat)
      case atStart => exact ⟨0, by omega, rfl, blw⟩
      case round =>
        obtain ⟨k, hk, rfl, hb_wr⟩ := hrel
        have b0_wr : wr.cell? ⟨w.heap.size, 0, none⟩ = some (.slice pa la ca) := keepC hb_wr (by go_simp)
        have b1_wr : wr.cell? ⟨w.heap.size, 1, none⟩ = some (.slice pb lb cb) := keepC hb_wr (by go_simp)
        have b2_wr : wr.cell? ⟨w.heap.size + 1, 0, none⟩ = some (.int .i64 oi) := keepC hb_wr (by go_simp)
        have b3_wr : wr.cell? ⟨w.heap.size + 1, 1, none⟩ = some (.int .i64 ol) := keepC hb_wr (by go_simp)
        have l_wr := World.block_lt_of_cell? _ _ b2_wr
        simp only at l_wr
        have m_wr : w.heap.size < wr.heap.size := (by omega)
        have m1_wr : w.heap.size < wr.heap.size + 1 := (by omega)
        have m2_wr : w.heap.size + 1 < wr.heap.size + 1 := (by omega)
        have n_wr : ¬ w.heap.size = wr.heap.size := (by omega)
        have n1_wr : ¬ w.heap.size + 1 = wr.heap.size := (by omega)
        by_cases hlt : k < i
        · obtain ⟨_, e9, c⟩ := (HZ.out.bel (show Below w.heap.size w wr from blw)).get k (by omega)
          cases e9
          have x0_wr := c 0 (by omega)
          have x1_wr := c 1 (by omega)
          have x2_wr := c 2 (by omega)
          rw [Nat.add_zero] at x0_wr
          rw [← add_off] at x1_wr
          rw [← add_off2] at x2_wr
          clear c
          have TK := TL.out k hlt
          rw [TN.out k hlt] at TK
          have TK := Lib.hid TK
          have hlt2 : (k : Int) < i := by omega
          have hkn : (k : Int) < n := by omega
          clear TL TN PA PB XA XB RA RB WI b0_w3 b1_w3 b2_w3 b3_w3
          generalize Z k 0 = x at *
          generalize Z k 1 = y at *
          generalize Z k 2 = z at *
          have la_wr := World.block_lt_of_cell? _ _ x0_wr
          have na_wr : ¬ (a.add (k * 3)).block = wr.heap.size := by omega
          go_wp2_with fail
          (go_region_held3 (fun w' => w'.cell? ⟨w.heap.size, 0, none⟩ = some (.slice pa la ca) ∧ w'.cell? ⟨w.heap.size, 1, none⟩ = some (.slice pb lb cb) ∧ w'.cell? ⟨w.heap.size + 1, 0, none⟩ = some (.int .i64 oi) ∧ w'.cell? ⟨w.heap.size + 1, 1, none⟩ = some (.int .i64 ol) ∧ w'.cell? (a.add (k * 3)) = some (.int .i64 x) ∧ w'.cell? ⟨(a.add (k * 3)).block, (a.add (k * 3)).off + 1, none⟩ = some (.int .i64 y) ∧ w'.cell? ⟨(a.add (k * 3)).block, (a.add (k * 3)).off + 2, none⟩ = some (.int .i64 z)) (simp [*, go_sem])
            (first
              | (go_at_call 41; (with_reducible refine (CP.out _ ?_).mono ?_); (· exact blw); rintro E w4 ⟨g, cg, h, ch, rfl, hA, hB, hb_w4⟩; have b0_w4 : w4.cell? ⟨w.heap.size, 0, none⟩ = some (.slice pa la ca) := keepC hb_w4 (by go_simp); have b1_w4 : w4.cell? ⟨w.heap.size, 1, none⟩ = some (.slice pb lb cb) := keepC hb_w4 (by go_simp); have b2_w4 : w4.cell? ⟨w.heap.size + 1, 0, none⟩ = some (.int .i64 oi) := keepC hb_w4 (by go_simp); have b3_w4 : w4.cell? ⟨w.heap.size + 1, 1, none⟩ = some (.int .i64 ol) := keepC hb_w4 (by go_simp); have x0_w4 : w4.cell? (a.add (k * 3)) = some (.int .i64 x) := keepC hb_w4 (by go_simp); have x1_w4 : w4.cell? ⟨(a.add (k * 3)).block, (a.add (k * 3)).off + 1, none⟩ = some (.int .i64 y) := keepC hb_w4 (by go_simp); have x2_w4 : w4.cell? ⟨(a.add (k * 3)).block, (a.add (k * 3)).off + 2, none⟩ = some (.int .i64 z) := keepC hb_w4 (by go_simp); have l_w4 := World.block_lt_of_cell? _ _ b2_w4; simp only at l_w4; have m_w4 : w.heap.size < w4.heap.size := (by omega); have m1_w4 : w.heap.size < w4.heap.size + 1 := (by omega); have m2_w4 : w.heap.size + 1 < w4.heap.size + 1 := (by omega); have n_w4 : ¬ w.heap.size = w4.heap.size := (by omega); have n1_w4 : ¬ w.heap.size + 1 = w4.heap.size := (by omega); have la_w4 := World.block_lt_of_cell? _ _ x0_w4; have na_w4 : ¬ (a.add (k * 3)).block = w4.heap.size := (by omega); have nb_w4 : ∀ o, ¬ ((⟨w4.heap.size, o, none⟩ : Addr) = (a.add (k * 3))) := (fun o e => na_w4 (by rw [← e])); have nc_w4 : ∀ o, ¬ ((a.add (k * 3)) = (⟨w4.heap.size, o, none⟩ : Addr)) := (fun o e => na_w4 (by rw [e])); have hA := Lib.hid hA; have hB := Lib.hid hB)
              | (go_at_call 43; refine (TK.out g cg h ch _ hA.out hB.out).mono ?_; rintro E w5 ⟨rfl, hb_w5⟩; have b0_w5 : w5.cell? ⟨w.heap.size, 0, none⟩ = some (.slice pa la ca) := keepC hb_w5 (by go_simp); have b1_w5 : w5.cell? ⟨w.heap.size, 1, none⟩ = some (.slice pb lb cb) := keepC hb_w5 (by go_simp); have b2_w5 : w5.cell? ⟨w.heap.size + 1, 0, none⟩ = some (.int .i64 oi) := keepC hb_w5 (by go_simp); have b3_w5 : w5.cell? ⟨w.heap.size + 1, 1, none⟩ = some (.int .i64 ol) := keepC hb_w5 (by go_simp); have x0_w5 : w5.cell? (a.add (k * 3)) = some (.int .i64 x) := keepC hb_w5 (by go_simp); have x1_w5 : w5.cell? ⟨(a.add (k * 3)).block, (a.add (k * 3)).off + 1, none⟩ = some (.int .i64 y) := keepC hb_w5 (by go_simp); have x2_w5 : w5.cell? ⟨(a.add (k * 3)).block, (a.add (k * 3)).off + 2, none⟩ = some (.int .i64 z) := keepC hb_w5 (by go_simp); have l_w5 := World.block_lt_of_cell? _ _ b2_w5; simp only at l_w5; have m_w5 : w.heap.size < w5.heap.size := (by omega); have m1_w5 : w.heap.size < w5.heap.size + 1 := (by omega); have m2_w5 : w.heap.size + 1 < w5.heap.size + 1 := (by omega); have n_w5 : ¬ w.heap.size = w5.heap.size := (by omega); have n1_w5 : ¬ w.heap.size + 1 = w5.heap.size := (by omega); have la_w5 := World.block_lt_of_cell? _ _ x0_w5; have na_w5 : ¬ (a.add (k * 3)).block = w5.heap.size := (by omega); have nb_w5 : ∀ o, ¬ ((⟨w5.heap.size, o, none⟩ : Addr) = (a.add (k * 3))) := (fun o e => na_w5 (by rw [← e])); have nc_w5 : ∀ o, ¬ ((a.add (k * 3)) = (⟨w5.heap.size, o, none⟩ : Addr)) := (fun o e => na_w5 (by rw [e])))
            ))
          go_wp2_with fail
          go_roundw
          case rel => exact ⟨k + 1, by omega, by first | (simp; done) | (simp; omega), blw⟩
          case measure => simp [intOf]; omega
        · obtain rfl : k = i := by omega
          have hlt2 : ¬ ((k : Int) < k) := by omega
          clear TL TN CP hlt WI b0_wr b1_wr b2_wr b3_wr l_wr m_wr m1_wr m2_wr n_wr n1_wr
          have hb_w3r := hb_wr
          clear hb_wr
          go_wp2_with fail
          go_loopw [12] (fun u wr2 => ∃ t : Nat, t ≤ 2 ∧ u = .int .i64 t ∧ Below w3.heap.size w3 wr2) (fun u _ => 2 - (intOf u).toNat)
          case atStart => exact ⟨0, by omega, rfl, blw⟩
          case round =>
            obtain ⟨t, ht, rfl, hb_w6⟩ := hrel
            have b0_wr : wr.cell? ⟨w.heap.size, 0, none⟩ = some (.slice pa la ca) := keepC hb_w6 (by go_simp)
            have b1_wr : wr.cell? ⟨w.heap.size, 1, none⟩ = some (.slice pb lb cb) := keepC hb_w6 (by go_simp)
            have b2_wr : wr.cell? ⟨w.heap.size + 1, 0, none⟩ = some (.int .i64 oi) := keepC hb_w6 (by go_simp)
            have b3_wr : wr.cell? ⟨w.heap.size + 1, 1, none⟩ = some (.int .i64 ol) := keepC hb_w6 (by go_simp)
            have l_wr := World.block_lt_of_cell? _ _ b2_wr
            simp only at l_wr
            have m_wr : w.heap.size < wr.heap.size := (by omega)
            have m1_wr : w.heap.size < wr.heap.size + 1 := (by omega)
            have m2_wr : w.heap.size + 1 < wr.heap.size + 1 := (by omega)
            have n_wr : ¬ w.heap.size = wr.heap.size := (by omega)
            have n1_wr : ¬ w.heap.size + 1 = wr.heap.size := (by omega)
            have hs_w6 := hb_w6.size
            clear b0_w3 b1_w3 b2_w3 b3_w3
            have hkn : (k : Int) < n := by have := HI.out.1; omega
            have t9 : ((0 : Nat) : Int) = 0 := rfl
            have t8 : ((1 : Nat) : Int) = 1 := rfl
            have t7 : ((2 : Nat) : Int) = 2 := rfl
            rcases (show t = 0 ∨ t = 1 ∨ t = 2 by omega) with rfl | rfl | rfl
            · obtain ⟨_, e9, c⟩ := (HZ.out.bel (show Below w.heap.size w wr from blw)).get k HI.out.1
              cases e9
              have x0_wr := c 0 (by omega)
              have x1_wr := c 1 (by omega)
              have x2_wr := c 2 (by omega)
              rw [Nat.add_zero] at x0_wr
              rw [← add_off] at x1_wr
              rw [← add_off2] at x2_wr
              have la_wr := World.block_lt_of_cell? _ _ x0_wr
              have na_wr : ¬ (a.add (k * 3)).block = wr.heap.size := by omega
              have nb_wr : ∀ o, ¬ ((⟨wr.heap.size, o, none⟩ : Addr) = a.add (k * 3)) := (fun o e => na_wr (by rw [← e]))
              have nc_wr : ∀ o, ¬ (a.add (k * 3) = (⟨wr.heap.size, o, none⟩ : Addr)) := (fun o e => na_wr (by rw [e]))
              clear c HZ HI HL XB RA PB
              obtain ⟨s0, s1, s2, s3, s4, s5, _⟩ := SA
              simp only [Seen.val] at PA
              generalize Z k 0 = x at *
              generalize Z k 1 = y at *
              generalize Z k 2 = z at *
              go_wp2_with fail
              refine wp_cut3 (fun g c B a9 => (((((((((((((((a9.put (some 84) (.slice (some a) n cp)).put (some 85) (.int .i64 k)).put (some 86) (.pointer (some (a.add (k * 3))))).put (some 87) (.agg #[.int .i64 x, .int .i64 y, .int .i64 z])).put (some 88) (.int .i64 0)).put (some 89) (.pointer (some ⟨w.heap.size, 0, none⟩))).put (some 90) (.slice pa la ca)).put (some 91) (.slice (some ⟨g, 0, none⟩) la c)).put (some 92) (.agg #[.int .i64 oi, .int .i64 ol])).put (some 93) (.tuple #[.agg #[.int .i64 s0, .int .i64 s1, .int .i64 s2, .int .i64 s3, .int .i64 s4, .int .i64 s5], .int .i64 0])).put (some 83) (.tuple #[.agg #[.int .i64 s0, .int .i64 s1, .int .i64 s2, .int .i64 s3, .int .i64 s4, .int .i64 s5], .int .i64 0])).put (some 94) (.agg #[.int .i64 s0, .int .i64 s1, .int .i64 s2, .int .i64 s3, .int .i64 s4, .int .i64 s5])).put (some 95) (.int .i64 0)).put (some 13) (.pointer (some ⟨B, 0, none⟩))).put (some 14) (.int .i64 0))) (fun B w20 => Below w3.heap.size w3 w20 ∧ w20.cell? ⟨w.heap.size, 0, none⟩ = some (.slice pa la ca) ∧ w20.cell? ⟨w.heap.size, 1, none⟩ = some (.slice pb lb cb) ∧ w20.cell? ⟨w.heap.size + 1, 0, none⟩ = some (.int .i64 oi) ∧ w20.cell? ⟨w.heap.size + 1, 1, none⟩ = some (.int .i64 ol) ∧ w20.cell? (a.add (k * 3)) = some (.int .i64 x) ∧ w20.cell? ⟨(a.add (k * 3)).block, (a.add (k * 3)).off + 1, none⟩ = some (.int .i64 y) ∧ w20.cell? ⟨(a.add (k * 3)).block, (a.add (k * 3)).off + 2, none⟩ = some (.int .i64 z) ∧ w20.cell? ⟨B, 0, none⟩ = some (.int .i64 s0) ∧ w20.cell? ⟨B, 1, none⟩ = some (.int .i64 s1) ∧ w20.cell? ⟨B, 2, none⟩ = some (.int .i64 s2) ∧ w20.cell? ⟨B, 3, none⟩ = some (.int .i64 s3) ∧ w20.cell? ⟨B, 4, none⟩ = some (.int .i64 s4) ∧ w20.cell? ⟨B, 5, none⟩ = some (.int .i64 s5)) ?_ ?_
              · (go_region_held3 (fun w' => w'.cell? ⟨w.heap.size, 0, none⟩ = some (.slice pa la ca) ∧ w'.cell? ⟨w.heap.size, 1, none⟩ = some (.slice pb lb cb) ∧ w'.cell? ⟨w.heap.size + 1, 0, none⟩ = some (.int .i64 oi) ∧ w'.cell? ⟨w.heap.size + 1, 1, none⟩ = some (.int .i64 ol) ∧ w'.cell? (a.add (k * 3)) = some (.int .i64 x) ∧ w'.cell? ⟨(a.add (k * 3)).block, (a.add (k * 3)).off + 1, none⟩ = some (.int .i64 y) ∧ w'.cell? ⟨(a.add (k * 3)).block, (a.add (k * 3)).off + 2, none⟩ = some (.int .i64 z)) (simp [*, go_sem])
                  (first
                    | (go_at_call 18; (with_reducible refine (CA.out _ ?_).mono ?_); (· exact blw); rintro E w7 ⟨g, c, rfl, ho, hb_w7⟩; have b0_w7 : w7.cell? ⟨w.heap.size, 0, none⟩ = some (.slice pa la ca) := keepC hb_w7 (by go_simp); have b1_w7 : w7.cell? ⟨w.heap.size, 1, none⟩ = some (.slice pb lb cb) := keepC hb_w7 (by go_simp); have b2_w7 : w7.cell? ⟨w.heap.size + 1, 0, none⟩ = some (.int .i64 oi) := keepC hb_w7 (by go_simp); have b3_w7 : w7.cell? ⟨w.heap.size + 1, 1, none⟩ = some (.int .i64 ol) := keepC hb_w7 (by go_simp); have x0_w7 : w7.cell? (a.add (k * 3)) = some (.int .i64 x) := keepC hb_w7 (by go_simp); have x1_w7 : w7.cell? ⟨(a.add (k * 3)).block, (a.add (k * 3)).off + 1, none⟩ = some (.int .i64 y) := keepC hb_w7 (by go_simp); have x2_w7 : w7.cell? ⟨(a.add (k * 3)).block, (a.add (k * 3)).off + 2, none⟩ = some (.int .i64 z) := keepC hb_w7 (by go_simp); have l_w7 := World.block_lt_of_cell? _ _ b2_w7; simp only at l_w7; have m_w7 : w.heap.size < w7.heap.size := (by omega); have m1_w7 : w.heap.size < w7.heap.size + 1 := (by omega); have m2_w7 : w.heap.size + 1 < w7.heap.size + 1 := (by omega); have n_w7 : ¬ w.heap.size = w7.heap.size := (by omega); have n1_w7 : ¬ w.heap.size + 1 = w7.heap.size := (by omega); have la_w7 := World.block_lt_of_cell? _ _ x0_w7; have na_w7 : ¬ (a.add (k * 3)).block = w7.heap.size := (by omega); have nb_w7 : ∀ o, ¬ ((⟨w7.heap.size, o, none⟩ : Addr) = (a.add (k * 3))) := (fun o e => na_w7 (by rw [← e])); have nc_w7 : ∀ o, ¬ ((a.add (k * 3)) = (⟨w7.heap.size, o, none⟩ : Addr)) := (fun o e => na_w7 (by rw [e])); have hs_w7 := hb_w7.size; (try simp at hs_w7); (try (refine hv9 (blx hb_w7 rfl (wr.heap.size) ?_) (fun hq => ?_); (focus (first | omega | (simp; done) | (simp <;> omega))); obtain ⟨z1_w7, y1_w7, v1_w7, c1_w7, f1_w7⟩ := hq)); have hR := Lib.hid ho.row; clear ho)
                    | (go_at_call 17; refine (PA.out g c _ (hR.out.bel (show Below w7.heap.size w7 _ from blw))).mono ?_; rintro E w8 ⟨rfl, hb_w8⟩; have b0_w8 : w8.cell? ⟨w.heap.size, 0, none⟩ = some (.slice pa la ca) := keepC hb_w8 (by go_simp); have b1_w8 : w8.cell? ⟨w.heap.size, 1, none⟩ = some (.slice pb lb cb) := keepC hb_w8 (by go_simp); have b2_w8 : w8.cell? ⟨w.heap.size + 1, 0, none⟩ = some (.int .i64 oi) := keepC hb_w8 (by go_simp); have b3_w8 : w8.cell? ⟨w.heap.size + 1, 1, none⟩ = some (.int .i64 ol) := keepC hb_w8 (by go_simp); have x0_w8 : w8.cell? (a.add (k * 3)) = some (.int .i64 x) := keepC hb_w8 (by go_simp); have x1_w8 : w8.cell? ⟨(a.add (k * 3)).block, (a.add (k * 3)).off + 1, none⟩ = some (.int .i64 y) := keepC hb_w8 (by go_simp); have x2_w8 : w8.cell? ⟨(a.add (k * 3)).block, (a.add (k * 3)).off + 2, none⟩ = some (.int .i64 z) := keepC hb_w8 (by go_simp); have l_w8 := World.block_lt_of_cell? _ _ b2_w8; simp only at l_w8; have m_w8 : w.heap.size < w8.heap.size := (by omega); have m1_w8 : w.heap.size < w8.heap.size + 1 := (by omega); have m2_w8 : w.heap.size + 1 < w8.heap.size + 1 := (by omega); have n_w8 : ¬ w.heap.size = w8.heap.size := (by omega); have n1_w8 : ¬ w.heap.size + 1 = w8.heap.size := (by omega); have la_w8 := World.block_lt_of_cell? _ _ x0_w8; have na_w8 : ¬ (a.add (k * 3)).block = w8.heap.size := (by omega); have nb_w8 : ∀ o, ¬ ((⟨w8.heap.size, o, none⟩ : Addr) = (a.add (k * 3))) := (fun o e => na_w8 (by rw [← e])); have nc_w8 : ∀ o, ¬ ((a.add (k * 3)) = (⟨w8.heap.size, o, none⟩ : Addr)) := (fun o e => na_w8 (by rw [e])); have hs_w8 := hb_w8.size; (try simp at hs_w8); (try (refine hv9 (blx hb_w8 rfl (wr.heap.size) ?_) (fun hq => ?_); (focus (first | omega | (simp; done) | (simp <;> omega))); obtain ⟨z1_w8, y1_w8, v1_w8, c1_w8, f1_w8⟩ := hq)); (try (refine hv9 (blx hb_w8 rfl (w7.heap.size) ?_) (fun hq => ?_); (focus (first | omega | (simp; done) | (simp <;> omega))); obtain ⟨z2_w8, y2_w8, v2_w8, c2_w8, f2_w8⟩ := hq)))
                  ))
                all_goals
                  first | (refine ⟨rfl, g, c, wr.heap.size, rfl, ?_⟩) | (refine ⟨rfl, g, c, w7.heap.size, rfl, ?_⟩) | (refine ⟨rfl, g, c, w8.heap.size, rfl, ?_⟩)
                  exact ⟨blw, (by go_simp), (by go_simp), (by go_simp), (by go_simp), (by go_simp), (by go_simp), (by go_simp), (by go_simp), (by go_simp), (by go_simp), (by go_simp), (by go_simp), (by go_simp)⟩
              intro g c B w20 hR20
              obtain ⟨hb_w20, b0_w20, b1_w20, b2_w20, b3_w20, x0_w20, x1_w20, x2_w20, p0, p1, p2, p3, p4, p5⟩ := hR20
              clear PA
              (try clear hs_w6); (try clear b0_wr); (try clear b1_wr); (try clear b2_wr); (try clear b3_wr); (try clear x0_wr); (try clear x1_wr); (try clear x2_wr); (try clear l_wr); (try clear m_wr); (try clear m1_wr); (try clear m2_wr); (try clear n_wr); (try clear n1_wr); (try clear la_wr); (try clear nb_wr); (try clear nc_wr); (try clear na_wr)
              have l_w20 := World.block_lt_of_cell? _ _ b2_w20
              simp only at l_w20
              have m_w20 : w.heap.size < w20.heap.size := by omega
              have m1_w20 : w.heap.size < w20.heap.size + 1 := by omega
              have m2_w20 : w.heap.size + 1 < w20.heap.size + 1 := by omega
              have n_w20 : ¬ w.heap.size = w20.heap.size := by omega
              have n1_w20 : ¬ w.heap.size + 1 = w20.heap.size := by omega
              have la_w20 := World.block_lt_of_cell? _ _ x0_w20
              have na_w20 : ¬ (a.add (k * 3)).block = w20.heap.size := by omega
              have nb_w20 : ∀ o, ¬ ((⟨w20.heap.size, o, none⟩ : Addr) = a.add (k * 3)) := (fun o e => na_w20 (by rw [← e]))
              have nc_w20 : ∀ o, ¬ (a.add (k * 3) = (⟨w20.heap.size, o, none⟩ : Addr)) := (fun o e => na_w20 (by rw [e]))
              have lB := World.block_lt_of_cell? _ _ p0
              simp only at lB
              have nB : ¬ B = w20.heap.size := by omega
              have nB1 : B < w20.heap.size + 1 := by omega
              simp only [Act.put, List.setIfInBounds_toArray, List.set_cons_zero, List.set_cons_succ]
              go_wp2_with fail
              (go_region_held3 (fun w' => w'.cell? ⟨w.heap.size, 0, none⟩ = some (.slice pa la ca) ∧ w'.cell? ⟨w.heap.size, 1, none⟩ = some (.slice pb lb cb) ∧ w'.cell? ⟨w.heap.size + 1, 0, none⟩ = some (.int .i64 oi) ∧ w'.cell? ⟨w.heap.size + 1, 1, none⟩ = some (.int .i64 ol) ∧ w'.cell? (a.add (k * 3)) = some (.int .i64 x) ∧ w'.cell? ⟨(a.add (k * 3)).block, (a.add (k * 3)).off + 1, none⟩ = some (.int .i64 y) ∧ w'.cell? ⟨(a.add (k * 3)).block, (a.add (k * 3)).off + 2, none⟩ = some (.int .i64 z) ∧ w'.cell? ⟨B, 0, none⟩ = some (.int .i64 s0) ∧ w'.cell? ⟨B, 1, none⟩ = some (.int .i64 s1) ∧ w'.cell? ⟨B, 2, none⟩ = some (.int .i64 s2) ∧ w'.cell? ⟨B, 3, none⟩ = some (.int .i64 s3) ∧ w'.cell? ⟨B, 4, none⟩ = some (.int .i64 s4) ∧ w'.cell? ⟨B, 5, none⟩ = some (.int .i64 s5)) (simp [*, go_sem]) (fail))
              repeat (first | (with_reducible refine wp_markr 23 ?_) | go_values | go_skip | go_guarded | go_step | go_upon | (simp only []; go_simp))
              refine wp_named (fun w23 hN => ?_)
              have hb_w23 : Below w3.heap.size w3 w23 := (by rw [hN]; exact blw)
              have b0_w23 : w23.cell? ⟨w.heap.size, 0, none⟩ = some (.slice pa la ca) := (by rw [hN]; go_simp)
              have b1_w23 : w23.cell? ⟨w.heap.size, 1, none⟩ = some (.slice pb lb cb) := (by rw [hN]; go_simp)
              have b2_w23 : w23.cell? ⟨w.heap.size + 1, 0, none⟩ = some (.int .i64 oi) := (by rw [hN]; go_simp)
              have b3_w23 : w23.cell? ⟨w.heap.size + 1, 1, none⟩ = some (.int .i64 ol) := (by rw [hN]; go_simp)
              have r0 : w23.cell? ⟨w20.heap.size, 0, none⟩ = some (.string { data := #[110, 101, 120, 116] }) := (by rw [hN]; go_simp)
              have r1 : w23.cell? ⟨w20.heap.size, 1, none⟩ = some (.int .i64 x) := (by rw [hN]; go_simp)
              have r2 : w23.cell? ⟨w20.heap.size, 2, none⟩ = some (.int .i64 y) := (by rw [hN]; go_simp)
              have r3 : w23.cell? ⟨w20.heap.size, 3, none⟩ = some (.int .i64 z) := (by rw [hN]; go_simp)
              have r4 : w23.cell? ⟨w20.heap.size, 4, none⟩ = some (.int .i64 s0) := (by rw [hN]; go_simp)
              have r5 : w23.cell? ⟨w20.heap.size, 5, none⟩ = some (.int .i64 s1) := (by rw [hN]; go_simp)
              have r6 : w23.cell? ⟨w20.heap.size, 6, none⟩ = some (.int .i64 s2) := (by rw [hN]; go_simp)
              have r7 : w23.cell? ⟨w20.heap.size, 7, none⟩ = some (.int .i64 s3) := (by rw [hN]; go_simp)
              have r8 : w23.cell? ⟨w20.heap.size, 8, none⟩ = some (.int .i64 s4) := (by rw [hN]; go_simp)
              have r9 : w23.cell? ⟨w20.heap.size, 9, none⟩ = some (.int .i64 s5) := (by rw [hN]; go_simp)
              clear hN p0 p1 p2 p3 p4 p5 lB nB nB1
              generalize w20.heap.size = R at *
              (try clear b0_w20); (try clear b1_w20); (try clear b2_w20); (try clear b3_w20); (try clear x0_w20); (try clear x1_w20); (try clear x2_w20); (try clear l_w20); (try clear m_w20); (try clear m1_w20); (try clear m2_w20); (try clear n_w20); (try clear n1_w20); (try clear la_w20); (try clear nb_w20); (try clear nc_w20); (try clear na_w20)
              clear hb_w20
              have l_w23 := World.block_lt_of_cell? _ _ b2_w23
              simp only at l_w23
              have m_w23 : w.heap.size < w23.heap.size := by omega
              have m1_w23 : w.heap.size < w23.heap.size + 1 := by omega
              have m2_w23 : w.heap.size + 1 < w23.heap.size + 1 := by omega
              have n_w23 : ¬ w.heap.size = w23.heap.size := by omega
              have n1_w23 : ¬ w.heap.size + 1 = w23.heap.size := by omega
              have lR := World.block_lt_of_cell? _ _ r0
              simp only at lR
              have nR : ¬ R = w23.heap.size := by omega
              have nR1 : R < w23.heap.size + 1 := by omega
              go_wp2_with fail
              refine wp_cut3 (fun g c B a9 => ((((((((((((((a9.put (some 116) (.int .i64 0)).put (some 117) (.pointer (some ⟨w.heap.size, 0, none⟩))).put (some 118) (.slice pa la ca)).put (some 119) (.slice (some ⟨g, 0, none⟩) la c)).put (some 120) (.agg #[.int .i64 oi, .int .i64 ol])).put (some 121) (.agg #[.string { data := #[110, 101, 120, 116] }, .int .i64 x, .int .i64 y, .int .i64 z, .int .i64 s0, .int .i64 s1, .int .i64 s2, .int .i64 s3, .int .i64 s4, .int .i64 s5])).put (some 122) (.slice (some ⟨B, 0, none⟩) 1 1)).put (some 123) (.agg #[.slice (some ⟨g, 0, none⟩) la c, .int .i64 oi, .int .i64 ol, .slice (some ⟨B, 0, none⟩) 1 1])).put (some 124) (.tuple #[.int .i64 2, .int .i64 0])).put (some 115) (.tuple #[.int .i64 2, .int .i64 0])).put (some 125) (.int .i64 2)).put (some 126) (.int .i64 0)).put (some 16) (.int .i64 2)).put (some 17) (.int .i64 0))) (fun _ w24 => Below w3.heap.size w3 w24 ∧ w24.cell? ⟨w.heap.size, 0, none⟩ = some (.slice pa la ca) ∧ w24.cell? ⟨w.heap.size, 1, none⟩ = some (.slice pb lb cb) ∧ w24.cell? ⟨w.heap.size + 1, 0, none⟩ = some (.int .i64 oi) ∧ w24.cell? ⟨w.heap.size + 1, 1, none⟩ = some (.int .i64 ol) ∧ w24.cell? ⟨R, 0, none⟩ = some (.string { data := #[110, 101, 120, 116] }) ∧ w24.cell? ⟨R, 1, none⟩ = some (.int .i64 x) ∧ w24.cell? ⟨R, 2, none⟩ = some (.int .i64 y) ∧ w24.cell? ⟨R, 3, none⟩ = some (.int .i64 z) ∧ w24.cell? ⟨R, 4, none⟩ = some (.int .i64 s0) ∧ w24.cell? ⟨R, 5, none⟩ = some (.int .i64 s1) ∧ w24.cell? ⟨R, 6, none⟩ = some (.int .i64 s2) ∧ w24.cell? ⟨R, 7, none⟩ = some (.int .i64 s3) ∧ w24.cell? ⟨R, 8, none⟩ = some (.int .i64 s4) ∧ w24.cell? ⟨R, 9, none⟩ = some (.int .i64 s5)) ?_ ?_
              · (go_region_held3 (fun w' => w'.cell? ⟨w.heap.size, 0, none⟩ = some (.slice pa la ca) ∧ w'.cell? ⟨w.heap.size, 1, none⟩ = some (.slice pb lb cb) ∧ w'.cell? ⟨w.heap.size + 1, 0, none⟩ = some (.int .i64 oi) ∧ w'.cell? ⟨w.heap.size + 1, 1, none⟩ = some (.int .i64 ol) ∧ w'.cell? ⟨R, 0, none⟩ = some (.string { data := #[110, 101, 120, 116] }) ∧ w'.cell? ⟨R, 1, none⟩ = some (.int .i64 x) ∧ w'.cell? ⟨R, 2, none⟩ = some (.int .i64 y) ∧ w'.cell? ⟨R, 3, none⟩ = some (.int .i64 z) ∧ w'.cell? ⟨R, 4, none⟩ = some (.int .i64 s0) ∧ w'.cell? ⟨R, 5, none⟩ = some (.int .i64 s1) ∧ w'.cell? ⟨R, 6, none⟩ = some (.int .i64 s2) ∧ w'.cell? ⟨R, 7, none⟩ = some (.int .i64 s3) ∧ w'.cell? ⟨R, 8, none⟩ = some (.int .i64 s4) ∧ w'.cell? ⟨R, 9, none⟩ = some (.int .i64 s5)) (simp [*, go_sem])
                  (first
                    | (go_at_call 18; (with_reducible refine (CA.out _ ?_).mono ?_); (· exact blw); rintro E w9 ⟨g, c, rfl, ho, hb_w9⟩; have b0_w9 : w9.cell? ⟨w.heap.size, 0, none⟩ = some (.slice pa la ca) := keepC hb_w9 (by go_simp); have b1_w9 : w9.cell? ⟨w.heap.size, 1, none⟩ = some (.slice pb lb cb) := keepC hb_w9 (by go_simp); have b2_w9 : w9.cell? ⟨w.heap.size + 1, 0, none⟩ = some (.int .i64 oi) := keepC hb_w9 (by go_simp); have b3_w9 : w9.cell? ⟨w.heap.size + 1, 1, none⟩ = some (.int .i64 ol) := keepC hb_w9 (by go_simp); have l_w9 := World.block_lt_of_cell? _ _ b2_w9; simp only at l_w9; have m_w9 : w.heap.size < w9.heap.size := (by omega); have m1_w9 : w.heap.size < w9.heap.size + 1 := (by omega); have m2_w9 : w.heap.size + 1 < w9.heap.size + 1 := (by omega); have n_w9 : ¬ w.heap.size = w9.heap.size := (by omega); have n1_w9 : ¬ w.heap.size + 1 = w9.heap.size := (by omega); have r0_w9 : w9.cell? ⟨R, 0, none⟩ = some (.string { data := #[110, 101, 120, 116] }) := keepC hb_w9 (by go_simp); have r1_w9 : w9.cell? ⟨R, 1, none⟩ = some (.int .i64 x) := keepC hb_w9 (by go_simp); have r2_w9 : w9.cell? ⟨R, 2, none⟩ = some (.int .i64 y) := keepC hb_w9 (by go_simp); have r3_w9 : w9.cell? ⟨R, 3, none⟩ = some (.int .i64 z) := keepC hb_w9 (by go_simp); have r4_w9 : w9.cell? ⟨R, 4, none⟩ = some (.int .i64 s0) := keepC hb_w9 (by go_simp); have r5_w9 : w9.cell? ⟨R, 5, none⟩ = some (.int .i64 s1) := keepC hb_w9 (by go_simp); have r6_w9 : w9.cell? ⟨R, 6, none⟩ = some (.int .i64 s2) := keepC hb_w9 (by go_simp); have r7_w9 : w9.cell? ⟨R, 7, none⟩ = some (.int .i64 s3) := keepC hb_w9 (by go_simp); have r8_w9 : w9.cell? ⟨R, 8, none⟩ = some (.int .i64 s4) := keepC hb_w9 (by go_simp); have r9_w9 : w9.cell? ⟨R, 9, none⟩ = some (.int .i64 s5) := keepC hb_w9 (by go_simp); have lR_w9 := World.block_lt_of_cell? _ _ r0_w9; simp only at lR_w9; have nR_w9 : ¬ R = w9.heap.size := (by omega); (try (refine hv9 (blx hb_w9 rfl (w23.heap.size) ?_) (fun hq => ?_); (focus (first | omega | (simp; done) | (simp <;> omega))); obtain ⟨z1_w9, y1_w9, v1_w9, c1_w9, f1_w9⟩ := hq)); have hR := Lib.hid ho.row; clear ho)
                    | (go_at_call 51; refine (XA.out g c _ _ _ (hR.out.bel (show Below w9.heap.size w9 _ from blw)) ⟨by go_simp, by go_simp, by go_simp, by go_simp, by go_simp, by go_simp, by go_simp, by go_simp, by go_simp, by go_simp⟩).mono ?_; rintro E w10 ⟨rfl, hb_w10⟩; have b0_w10 : w10.cell? ⟨w.heap.size, 0, none⟩ = some (.slice pa la ca) := keepC hb_w10 (by go_simp); have b1_w10 : w10.cell? ⟨w.heap.size, 1, none⟩ = some (.slice pb lb cb) := keepC hb_w10 (by go_simp); have b2_w10 : w10.cell? ⟨w.heap.size + 1, 0, none⟩ = some (.int .i64 oi) := keepC hb_w10 (by go_simp); have b3_w10 : w10.cell? ⟨w.heap.size + 1, 1, none⟩ = some (.int .i64 ol) := keepC hb_w10 (by go_simp); have l_w10 := World.block_lt_of_cell? _ _ b2_w10; simp only at l_w10; have m_w10 : w.heap.size < w10.heap.size := (by omega); have m1_w10 : w.heap.size < w10.heap.size + 1 := (by omega); have m2_w10 : w.heap.size + 1 < w10.heap.size + 1 := (by omega); have n_w10 : ¬ w.heap.size = w10.heap.size := (by omega); have n1_w10 : ¬ w.heap.size + 1 = w10.heap.size := (by omega); have r0_w10 : w10.cell? ⟨R, 0, none⟩ = some (.string { data := #[110, 101, 120, 116] }) := keepC hb_w10 (by go_simp); have r1_w10 : w10.cell? ⟨R, 1, none⟩ = some (.int .i64 x) := keepC hb_w10 (by go_simp); have r2_w10 : w10.cell? ⟨R, 2, none⟩ = some (.int .i64 y) := keepC hb_w10 (by go_simp); have r3_w10 : w10.cell? ⟨R, 3, none⟩ = some (.int .i64 z) := keepC hb_w10 (by go_simp); have r4_w10 : w10.cell? ⟨R, 4, none⟩ = some (.int .i64 s0) := keepC hb_w10 (by go_simp); have r5_w10 : w10.cell? ⟨R, 5, none⟩ = some (.int .i64 s1) := keepC hb_w10 (by go_simp); have r6_w10 : w10.cell? ⟨R, 6, none⟩ = some (.int .i64 s2) := keepC hb_w10 (by go_simp); have r7_w10 : w10.cell? ⟨R, 7, none⟩ = some (.int .i64 s3) := keepC hb_w10 (by go_simp); have r8_w10 : w10.cell? ⟨R, 8, none⟩ = some (.int .i64 s4) := keepC hb_w10 (by go_simp); have r9_w10 : w10.cell? ⟨R, 9, none⟩ = some (.int .i64 s5) := keepC hb_w10 (by go_simp))
                  ))
                all_goals
                  first | (refine ⟨rfl, g, c, w23.heap.size, rfl, ?_⟩) | (refine ⟨rfl, g, c, w9.heap.size, rfl, ?_⟩)
                  exact ⟨blw, (by go_simp), (by go_simp), (by go_simp), (by go_simp), (by go_simp), (by go_simp), (by go_simp), (by go_simp), (by go_simp), (by go_simp), (by go_simp), (by go_simp), (by go_simp), (by go_simp)⟩
              intro g c B w24 hR24
              obtain ⟨hb_w24, b0_w24, b1_w24, b2_w24, b3_w24, u0, u1, u2, u3, u4, u5, u6, u7, u8, u9⟩ := hR24
              clear r0 r1 r2 r3 r4 r5 r6 r7 r8 r9 lR nR nR1 hb_w23
              have l_w24 := World.block_lt_of_cell? _ _ b2_w24
              simp only at l_w24
              have m_w24 : w.heap.size < w24.heap.size := by omega
              have m1_w24 : w.heap.size < w24.heap.size + 1 := by omega
              have m2_w24 : w.heap.size + 1 < w24.heap.size + 1 := by omega
              have n_w24 : ¬ w.heap.size = w24.heap.size := by omega
              have n1_w24 : ¬ w.heap.size + 1 = w24.heap.size := by omega
              have lR := World.block_lt_of_cell? _ _ u0
              simp only at lR
              have nR : ¬ R = w24.heap.size := by omega
              have nR1 : R < w24.heap.size + 1 := by omega
              simp only [Act.put, List.setIfInBounds_toArray, List.set_cons_zero, List.set_cons_succ]
              have v0a : IntKind.i64.wrap (1 - 0) = 1 := by decide
              have v1a : IntKind.i64.wrap (1 - 1) = 0 := by decide
              have v2a : IntKind.i64.wrap 1 = 1 := by decide
              have v3a : IntKind.i64.wrap 0 = 0 := by decide
              have v4a : IntKind.i64.wrap (1 - ((0 : Nat) : Int)) = 1 := by decide
              have v5a : IntKind.i64.wrap (1 - ((1 : Nat) : Int)) = 0 := by decide
              go_wp2_with fail
              refine wp_cut3 (fun g c B a9 => (((((((((((((((a9.put (some 128) (.int .i64 0)).put (some 129) (.int .i64 1)).put (some 130) (.pointer (some ⟨w.heap.size, 1, none⟩))).put (some 131) (.slice pb lb cb)).put (some 132) (.slice (some ⟨g, 0, none⟩) lb c)).put (some 133) (.agg #[.int .i64 oi, .int .i64 ol])).put (some 134) (.agg #[.string { data := #[110, 101, 120, 116] }, .int .i64 x, .int .i64 y, .int .i64 z, .int .i64 s0, .int .i64 s1, .int .i64 s2, .int .i64 s3, .int .i64 s4, .int .i64 s5])).put (some 135) (.slice (some ⟨B, 0, none⟩) 1 1)).put (some 136) (.agg #[.slice (some ⟨g, 0, none⟩) lb c, .int .i64 oi, .int .i64 ol, .slice (some ⟨B, 0, none⟩) 1 1])).put (some 137) (.tuple #[.int .i64 0, .int .i64 0])).put (some 127) (.tuple #[.int .i64 0, .int .i64 0])).put (some 138) (.int .i64 0)).put (some 139) (.int .i64 0)).put (some 18) (.int .i64 0)).put (some 19) (.int .i64 0))) (fun _ w24 => Below w3.heap.size w3 w24) ?_ ?_
              · (go_region_held3 (fun w' => w'.cell? ⟨w.heap.size, 0, none⟩ = some (.slice pa la ca) ∧ w'.cell? ⟨w.heap.size, 1, none⟩ = some (.slice pb lb cb) ∧ w'.cell? ⟨w.heap.size + 1, 0, none⟩ = some (.int .i64 oi) ∧ w'.cell? ⟨w.heap.size + 1, 1, none⟩ = some (.int .i64 ol) ∧ w'.cell? ⟨R, 0, none⟩ = some (.string { data := #[110, 101, 120, 116] }) ∧ w'.cell? ⟨R, 1, none⟩ = some (.int .i64 x) ∧ w'.cell? ⟨R, 2, none⟩ = some (.int .i64 y) ∧ w'.cell? ⟨R, 3, none⟩ = some (.int .i64 z) ∧ w'.cell? ⟨R, 4, none⟩ = some (.int .i64 s0) ∧ w'.cell? ⟨R, 5, none⟩ = some (.int .i64 s1) ∧ w'.cell? ⟨R, 6, none⟩ = some (.int .i64 s2) ∧ w'.cell? ⟨R, 7, none⟩ = some (.int .i64 s3) ∧ w'.cell? ⟨R, 8, none⟩ = some (.int .i64 s4) ∧ w'.cell? ⟨R, 9, none⟩ = some (.int .i64 s5)) (simp [*, go_sem])
                  (first
                    | (go_at_call 18; (with_reducible refine (CB.out _ ?_).mono ?_); (· exact blw); rintro E w11 ⟨g, c, rfl, ho, hb_w11⟩; have b0_w11 : w11.cell? ⟨w.heap.size, 0, none⟩ = some (.slice pa la ca) := keepC hb_w11 (by go_simp); have b1_w11 : w11.cell? ⟨w.heap.size, 1, none⟩ = some (.slice pb lb cb) := keepC hb_w11 (by go_simp); have b2_w11 : w11.cell? ⟨w.heap.size + 1, 0, none⟩ = some (.int .i64 oi) := keepC hb_w11 (by go_simp); have b3_w11 : w11.cell? ⟨w.heap.size + 1, 1, none⟩ = some (.int .i64 ol) := keepC hb_w11 (by go_simp); have l_w11 := World.block_lt_of_cell? _ _ b2_w11; simp only at l_w11; have m_w11 : w.heap.size < w11.heap.size := (by omega); have m1_w11 : w.heap.size < w11.heap.size + 1 := (by omega); have m2_w11 : w.heap.size + 1 < w11.heap.size + 1 := (by omega); have n_w11 : ¬ w.heap.size = w11.heap.size := (by omega); have n1_w11 : ¬ w.heap.size + 1 = w11.heap.size := (by omega); have u0_w11 : w11.cell? ⟨R, 0, none⟩ = some (.string { data := #[110, 101, 120, 116] }) := keepC hb_w11 (by go_simp); have u1_w11 : w11.cell? ⟨R, 1, none⟩ = some (.int .i64 x) := keepC hb_w11 (by go_simp); have u2_w11 : w11.cell? ⟨R, 2, none⟩ = some (.int .i64 y) := keepC hb_w11 (by go_simp); have u3_w11 : w11.cell? ⟨R, 3, none⟩ = some (.int .i64 z) := keepC hb_w11 (by go_simp); have u4_w11 : w11.cell? ⟨R, 4, none⟩ = some (.int .i64 s0) := keepC hb_w11 (by go_simp); have u5_w11 : w11.cell? ⟨R, 5, none⟩ = some (.int .i64 s1) := keepC hb_w11 (by go_simp); have u6_w11 : w11.cell? ⟨R, 6, none⟩ = some (.int .i64 s2) := keepC hb_w11 (by go_simp); have u7_w11 : w11.cell? ⟨R, 7, none⟩ = some (.int .i64 s3) := keepC hb_w11 (by go_simp); have u8_w11 : w11.cell? ⟨R, 8, none⟩ = some (.int .i64 s4) := keepC hb_w11 (by go_simp); have u9_w11 : w11.cell? ⟨R, 9, none⟩ = some (.int .i64 s5) := keepC hb_w11 (by go_simp); have lR_w11 := World.block_lt_of_cell? _ _ u0_w11; simp only at lR_w11; have nR_w11 : ¬ R = w11.heap.size := (by omega); (try (refine hv9 (blx hb_w11 rfl (w24.heap.size) ?_) (fun hq => ?_); (focus (first | omega | (simp; done) | (simp <;> omega))); obtain ⟨z1_w11, y1_w11, v1_w11, c1_w11, f1_w11⟩ := hq)); have hR := Lib.hid ho.row; clear ho)
                    | (go_at_call 50; refine (RB.out g c _ _ _ (hR.out.bel (show Below w11.heap.size w11 _ from blw)) ⟨by go_simp, by go_simp, by go_simp, by go_simp, by go_simp, by go_simp, by go_simp, by go_simp, by go_simp, by go_simp⟩).mono ?_; rintro E w12 ⟨rfl, hb_w12⟩; have b0_w12 : w12.cell? ⟨w.heap.size, 0, none⟩ = some (.slice pa la ca) := keepC hb_w12 (by go_simp); have b1_w12 : w12.cell? ⟨w.heap.size, 1, none⟩ = some (.slice pb lb cb) := keepC hb_w12 (by go_simp); have b2_w12 : w12.cell? ⟨w.heap.size + 1, 0, none⟩ = some (.int .i64 oi) := keepC hb_w12 (by go_simp); have b3_w12 : w12.cell? ⟨w.heap.size + 1, 1, none⟩ = some (.int .i64 ol) := keepC hb_w12 (by go_simp); have l_w12 := World.block_lt_of_cell? _ _ b2_w12; simp only at l_w12; have m_w12 : w.heap.size < w12.heap.size := (by omega); have m1_w12 : w.heap.size < w12.heap.size + 1 := (by omega); have m2_w12 : w.heap.size + 1 < w12.heap.size + 1 := (by omega); have n_w12 : ¬ w.heap.size = w12.heap.size := (by omega); have n1_w12 : ¬ w.heap.size + 1 = w12.heap.size := (by omega); have u0_w12 : w12.cell? ⟨R, 0, none⟩ = some (.string { data := #[110, 101, 120, 116] }) := keepC hb_w12 (by go_simp); have u1_w12 : w12.cell? ⟨R, 1, none⟩ = some (.int .i64 x) := keepC hb_w12 (by go_simp); have u2_w12 : w12.cell? ⟨R, 2, none⟩ = some (.int .i64 y) := keepC hb_w12 (by go_simp); have u3_w12 : w12.cell? ⟨R, 3, none⟩ = some (.int .i64 z) := keepC hb_w12 (by go_simp); have u4_w12 : w12.cell? ⟨R, 4, none⟩ = some (.int .i64 s0) := keepC hb_w12 (by go_simp); have u5_w12 : w12.cell? ⟨R, 5, none⟩ = some (.int .i64 s1) := keepC hb_w12 (by go_simp); have u6_w12 : w12.cell? ⟨R, 6, none⟩ = some (.int .i64 s2) := keepC hb_w12 (by go_simp); have u7_w12 : w12.cell? ⟨R, 7, none⟩ = some (.int .i64 s3) := keepC hb_w12 (by go_simp); have u8_w12 : w12.cell? ⟨R, 8, none⟩ = some (.int .i64 s4) := keepC hb_w12 (by go_simp); have u9_w12 : w12.cell? ⟨R, 9, none⟩ = some (.int .i64 s5) := keepC hb_w12 (by go_simp))
                  ))
                all_goals
                  first | (refine ⟨rfl, g, c, w24.heap.size, rfl, ?_⟩) | (refine ⟨rfl, g, c, w11.heap.size, rfl, ?_⟩)
                  exact blw
              intro g c B w25 hb_w25
              simp only [Act.put, List.setIfInBounds_toArray, List.set_cons_zero, List.set_cons_succ]
              go_wp2_with fail
              go_roundw
              case rel => exact ⟨0 + 1, by omega, by first | rfl | (simp; done) | (simp; omega), blw⟩
              case measure => simp [intOf]
            · obtain ⟨_, e9, c⟩ := (HZ.out.bel (show Below w.heap.size w wr from blw)).get k HI.out.1
              cases e9
              have x0_wr := c 0 (by omega)
              have x1_wr := c 1 (by omega)
              have x2_wr := c 2 (by omega)
              rw [Nat.add_zero] at x0_wr
              rw [← add_off] at x1_wr
              rw [← add_off2] at x2_wr
              have la_wr := World.block_lt_of_cell? _ _ x0_wr
              have na_wr : ¬ (a.add (k * 3)).block = wr.heap.size := by omega
              have nb_wr : ∀ o, ¬ ((⟨wr.heap.size, o, none⟩ : Addr) = a.add (k * 3)) := (fun o e => na_wr (by rw [← e]))
              have nc_wr : ∀ o, ¬ (a.add (k * 3) = (⟨wr.heap.size, o, none⟩ : Addr)) := (fun o e => na_wr (by rw [e]))
              clear c HZ HI HL XA RB PA
              obtain ⟨s0, s1, s2, s3, s4, s5, _⟩ := SB
              simp only [Seen.val] at PB
              generalize Z k 0 = x at *
              generalize Z k 1 = y at *
              generalize Z k 2 = z at *
              go_wp2_with fail
              refine wp_cut3 (fun g c B a9 => (((((((((((((((a9.put (some 84) (.slice (some a) n cp)).put (some 85) (.int .i64 k)).put (some 86) (.pointer (some (a.add (k * 3))))).put (some 87) (.agg #[.int .i64 x, .int .i64 y, .int .i64 z])).put (some 88) (.int .i64 1)).put (some 89) (.pointer (some ⟨w.heap.size, 1, none⟩))).put (some 90) (.slice pb lb cb)).put (some 91) (.slice (some ⟨g, 0, none⟩) lb c)).put (some 92) (.agg #[.int .i64 oi, .int .i64 ol])).put (some 93) (.tuple #[.agg #[.int .i64 s0, .int .i64 s1, .int .i64 s2, .int .i64 s3, .int .i64 s4, .int .i64 s5], .int .i64 0])).put (some 83) (.tuple #[.agg #[.int .i64 s0, .int .i64 s1, .int .i64 s2, .int .i64 s3, .int .i64 s4, .int .i64 s5], .int .i64 0])).put (some 94) (.agg #[.int .i64 s0, .int .i64 s1, .int .i64 s2, .int .i64 s3, .int .i64 s4, .int .i64 s5])).put (some 95) (.int .i64 0)).put (some 13) (.pointer (some ⟨B, 0, none⟩))).put (some 14) (.int .i64 0))) (fun B w20 => Below w3.heap.size w3 w20 ∧ w20.cell? ⟨w.heap.size, 0, none⟩ = some (.slice pa la ca) ∧ w20.cell? ⟨w.heap.size, 1, none⟩ = some (.slice pb lb cb) ∧ w20.cell? ⟨w.heap.size + 1, 0, none⟩ = some (.int .i64 oi) ∧ w20.cell? ⟨w.heap.size + 1, 1, none⟩ = some (.int .i64 ol) ∧ w20.cell? (a.add (k * 3)) = some (.int .i64 x) ∧ w20.cell? ⟨(a.add (k * 3)).block, (a.add (k * 3)).off + 1, none⟩ = some (.int .i64 y) ∧ w20.cell? ⟨(a.add (k * 3)).block, (a.add (k * 3)).off + 2, none⟩ = some (.int .i64 z) ∧ w20.cell? ⟨B, 0, none⟩ = some (.int .i64 s0) ∧ w20.cell? ⟨B, 1, none⟩ = some (.int .i64 s1) ∧ w20.cell? ⟨B, 2, none⟩ = some (.int .i64 s2) ∧ w20.cell? ⟨B, 3, none⟩ = some (.int .i64 s3) ∧ w20.cell? ⟨B, 4, none⟩ = some (.int .i64 s4) ∧ w20.cell? ⟨B, 5, none⟩ = some (.int .i64 s5)) ?_ ?_
              · (go_region_held3 (fun w' => w'.cell? ⟨w.heap.size, 0, none⟩ = some (.slice pa la ca) ∧ w'.cell? ⟨w.heap.size, 1, none⟩ = some (.slice pb lb cb) ∧ w'.cell? ⟨w.heap.size + 1, 0, none⟩ = some (.int .i64 oi) ∧ w'.cell? ⟨w.heap.size + 1, 1, none⟩ = some (.int .i64 ol) ∧ w'.cell? (a.add (k * 3)) = some (.int .i64 x) ∧ w'.cell? ⟨(a.add (k * 3)).block, (a.add (k * 3)).off + 1, none⟩ = some (.int .i64 y) ∧ w'.cell? ⟨(a.add (k * 3)).block, (a.add (k * 3)).off + 2, none⟩ = some (.int .i64 z)) (simp [*, go_sem])
                  (first
                    | (go_at_call 18; (with_reducible refine (CB.out _ ?_).mono ?_); (· exact blw); rintro E w7 ⟨g, c, rfl, ho, hb_w7⟩; have b0_w7 : w7.cell? ⟨w.heap.size, 0, none⟩ = some (.slice pa la ca) := keepC hb_w7 (by go_simp); have b1_w7 : w7.cell? ⟨w.heap.size, 1, none⟩ = some (.slice pb lb cb) := keepC hb_w7 (by go_simp); have b2_w7 : w7.cell? ⟨w.heap.size + 1, 0, none⟩ = some (.int .i64 oi) := keepC hb_w7 (by go_simp); have b3_w7 : w7.cell? ⟨w.heap.size + 1, 1, none⟩ = some (.int .i64 ol) := keepC hb_w7 (by go_simp); have x0_w7 : w7.cell? (a.add (k * 3)) = some (.int .i64 x) := keepC hb_w7 (by go_simp); have x1_w7 : w7.cell? ⟨(a.add (k * 3)).block, (a.add (k * 3)).off + 1, none⟩ = some (.int .i64 y) := keepC hb_w7 (by go_simp); have x2_w7 : w7.cell? ⟨(a.add (k * 3)).block, (a.add (k * 3)).off + 2, none⟩ = some (.int .i64 z) := keepC hb_w7 (by go_simp); have l_w7 := World.block_lt_of_cell? _ _ b2_w7; simp only at l_w7; have m_w7 : w.heap.size < w7.heap.size := (by omega); have m1_w7 : w.heap.size < w7.heap.size + 1 := (by omega); have m2_w7 : w.heap.size + 1 < w7.heap.size + 1 := (by omega); have n_w7 : ¬ w.heap.size = w7.heap.size := (by omega); have n1_w7 : ¬ w.heap.size + 1 = w7.heap.size := (by omega); have la_w7 := World.block_lt_of_cell? _ _ x0_w7; have na_w7 : ¬ (a.add (k * 3)).block = w7.heap.size := (by omega); have nb_w7 : ∀ o, ¬ ((⟨w7.heap.size, o, none⟩ : Addr) = (a.add (k * 3))) := (fun o e => na_w7 (by rw [← e])); have nc_w7 : ∀ o, ¬ ((a.add (k * 3)) = (⟨w7.heap.size, o, none⟩ : Addr)) := (fun o e => na_w7 (by rw [e])); have hs_w7 := hb_w7.size; (try simp at hs_w7); (try (refine hv9 (blx hb_w7 rfl (wr.heap.size) ?_) (fun hq => ?_); (focus (first | omega | (simp; done) | (simp <;> omega))); obtain ⟨z1_w7, y1_w7, v1_w7, c1_w7, f1_w7⟩ := hq)); have hR := Lib.hid ho.row; clear ho)
                    | (go_at_call 17; refine (PB.out g c _ (hR.out.bel (show Below w7.heap.size w7 _ from blw))).mono ?_; rintro E w8 ⟨rfl, hb_w8⟩; have b0_w8 : w8.cell? ⟨w.heap.size, 0, none⟩ = some (.slice pa la ca) := keepC hb_w8 (by go_simp); have b1_w8 : w8.cell? ⟨w.heap.size, 1, none⟩ = some (.slice pb lb cb) := keepC hb_w8 (by go_simp); have b2_w8 : w8.cell? ⟨w.heap.size + 1, 0, none⟩ = some (.int .i64 oi) := keepC hb_w8 (by go_simp); have b3_w8 : w8.cell? ⟨w.heap.size + 1, 1, none⟩ = some (.int .i64 ol) := keepC hb_w8 (by go_simp); have x0_w8 : w8.cell? (a.add (k * 3)) = some (.int .i64 x) := keepC hb_w8 (by go_simp); have x1_w8 : w8.cell? ⟨(a.add (k * 3)).block, (a.add (k * 3)).off + 1, none⟩ = some (.int .i64 y) := keepC hb_w8 (by go_simp); have x2_w8 : w8.cell? ⟨(a.add (k * 3)).block, (a.add (k * 3)).off + 2, none⟩ = some (.int .i64 z) := keepC hb_w8 (by go_simp); have l_w8 := World.block_lt_of_cell? _ _ b2_w8; simp only at l_w8; have m_w8 : w.heap.size < w8.heap.size := (by omega); have m1_w8 : w.heap.size < w8.heap.size + 1 := (by omega); have m2_w8 : w.heap.size + 1 < w8.heap.size + 1 := (by omega); have n_w8 : ¬ w.heap.size = w8.heap.size := (by omega); have n1_w8 : ¬ w.heap.size + 1 = w8.heap.size := (by omega); have la_w8 := World.block_lt_of_cell? _ _ x0_w8; have na_w8 : ¬ (a.add (k * 3)).block = w8.heap.size := (by omega); have nb_w8 : ∀ o, ¬ ((⟨w8.heap.size, o, none⟩ : Addr) = (a.add (k * 3))) := (fun o e => na_w8 (by rw [← e])); have nc_w8 : ∀ o, ¬ ((a.add (k * 3)) = (⟨w8.heap.size, o, none⟩ : Addr)) := (fun o e => na_w8 (by rw [e])); have hs_w8 := hb_w8.size; (try simp at hs_w8); (try (refine hv9 (blx hb_w8 rfl (wr.heap.size) ?_) (fun hq => ?_); (focus (first | omega | (simp; done) | (simp <;> omega))); obtain ⟨z1_w8, y1_w8, v1_w8, c1_w8, f1_w8⟩ := hq)); (try (refine hv9 (blx hb_w8 rfl (w7.heap.size) ?_) (fun hq => ?_); (focus (first | omega | (simp; done) | (simp <;> omega))); obtain ⟨z2_w8, y2_w8, v2_w8, c2_w8, f2_w8⟩ := hq)))
                  ))
                all_goals
                  first | (refine ⟨rfl, g, c, wr.heap.size, rfl, ?_⟩) | (refine ⟨rfl, g, c, w7.heap.size, rfl, ?_⟩) | (refine ⟨rfl, g, c, w8.heap.size, rfl, ?_⟩)
                  exact ⟨blw, (by go_simp), (by go_simp), (by go_simp), (by go_simp), (by go_simp), (by go_simp), (by go_simp), (by go_simp), (by go_simp), (by go_simp), (by go_simp), (by go_simp), (by go_simp)⟩
              intro g c B w20 hR20
              obtain ⟨hb_w20, b0_w20, b1_w20, b2_w20, b3_w20, x0_w20, x1_w20, x2_w20, p0, p1, p2, p3, p4, p5⟩ := hR20
              clear PB
              (try clear hs_w6); (try clear b0_wr); (try clear b1_wr); (try clear b2_wr); (try clear b3_wr); (try clear x0_wr); (try clear x1_wr); (try clear x2_wr); (try clear l_wr); (try clear m_wr); (try clear m1_wr); (try clear m2_wr); (try clear n_wr); (try clear n1_wr); (try clear la_wr); (try clear nb_wr); (try clear nc_wr); (try clear na_wr)
              have l_w20 := World.block_lt_of_cell? _ _ b2_w20
              simp only at l_w20
              have m_w20 : w.heap.size < w20.heap.size := by omega
              have m1_w20 : w.heap.size < w20.heap.size + 1 := by omega
              have m2_w20 : w.heap.size + 1 < w20.heap.size + 1 := by omega
              have n_w20 : ¬ w.heap.size = w20.heap.size := by omega
              have n1_w20 : ¬ w.heap.size + 1 = w20.heap.size := by omega
              have la_w20 := World.block_lt_of_cell? _ _ x0_w20
              have na_w20 : ¬ (a.add (k * 3)).block = w20.heap.size := by omega
              have nb_w20 : ∀ o, ¬ ((⟨w20.heap.size, o, none⟩ : Addr) = a.add (k * 3)) := (fun o e => na_w20 (by rw [← e]))
              have nc_w20 : ∀ o, ¬ (a.add (k * 3) = (⟨w20.heap.size, o, none⟩ : Addr)) := (fun o e => na_w20 (by rw [e]))
              have lB := World.block_lt_of_cell? _ _ p0
              simp only at lB
              have nB : ¬ B = w20.heap.size := by omega
              have nB1 : B < w20.heap.size + 1 := by omega
              simp only [Act.put, List.setIfInBounds_toArray, List.set_cons_zero, List.set_cons_succ]
              go_wp2_with fail
              (go_region_held3 (fun w' => w'.cell? ⟨w.heap.size, 0, none⟩ = some (.slice pa la ca) ∧ w'.cell? ⟨w.heap.size, 1, none⟩ = some (.slice pb lb cb) ∧ w'.cell? ⟨w.heap.size + 1, 0, none⟩ = some (.int .i64 oi) ∧ w'.cell? ⟨w.heap.size + 1, 1, none⟩ = some (.int .i64 ol) ∧ w'.cell? (a.add (k * 3)) = some (.int .i64 x) ∧ w'.cell? ⟨(a.add (k * 3)).block, (a.add (k * 3)).off + 1, none⟩ = some (.int .i64 y) ∧ w'.cell? ⟨(a.add (k * 3)).block, (a.add (k * 3)).off + 2, none⟩ = some (.int .i64 z) ∧ w'.cell? ⟨B, 0, none⟩ = some (.int .i64 s0) ∧ w'.cell? ⟨B, 1, none⟩ = some (.int .i64 s1) ∧ w'.cell? ⟨B, 2, none⟩ = some (.int .i64 s2) ∧ w'.cell? ⟨B, 3, none⟩ = some (.int .i64 s3) ∧ w'.cell? ⟨B, 4, none⟩ = some (.int .i64 s4) ∧ w'.cell? ⟨B, 5, none⟩ = some (.int .i64 s5)) (simp [*, go_sem]) (fail))
              repeat (first | (with_reducible refine wp_markr 23 ?_) | go_values | go_skip | go_guarded | go_step | go_upon | (simp only []; go_simp))
              refine wp_named (fun w23 hN => ?_)
              have hb_w23 : Below w3.heap.size w3 w23 := (by rw [hN]; exact blw)
              have b0_w23 : w23.cell? ⟨w.heap.size, 0, none⟩ = some (.slice pa la ca) := (by rw [hN]; go_simp)
              have b1_w23 : w23.cell? ⟨w.heap.size, 1, none⟩ = some (.slice pb lb cb) := (by rw [hN]; go_simp)
              have b2_w23 : w23.cell? ⟨w.heap.size + 1, 0, none⟩ = some (.int .i64 oi) := (by rw [hN]; go_simp)
              have b3_w23 : w23.cell? ⟨w.heap.size + 1, 1, none⟩ = some (.int .i64 ol) := (by rw [hN]; go_simp)
              have r0 : w23.cell? ⟨w20.heap.size, 0, none⟩ = some (.string { data := #[110, 101, 120, 116] }) := (by rw [hN]; go_simp)
              have r1 : w23.cell? ⟨w20.heap.size, 1, none⟩ = some (.int .i64 x) := (by rw [hN]; go_simp)
              have r2 : w23.cell? ⟨w20.heap.size, 2, none⟩ = some (.int .i64 y) := (by rw [hN]; go_simp)
              have r3 : w23.cell? ⟨w20.heap.size, 3, none⟩ = some (.int .i64 z) := (by rw [hN]; go_simp)
              have r4 : w23.cell? ⟨w20.heap.size, 4, none⟩ = some (.int .i64 s0) := (by rw [hN]; go_simp)
              have r5 : w23.cell? ⟨w20.heap.size, 5, none⟩ = some (.int .i64 s1) := (by rw [hN]; go_simp)
              have r6 : w23.cell? ⟨w20.heap.size, 6, none⟩ = some (.int .i64 s2) := (by rw [hN]; go_simp)
              have r7 : w23.cell? ⟨w20.heap.size, 7, none⟩ = some (.int .i64 s3) := (by rw [hN]; go_simp)
              have r8 : w23.cell? ⟨w20.heap.size, 8, none⟩ = some (.int .i64 s4) := (by rw [hN]; go_simp)
              have r9 : w23.cell? ⟨w20.heap.size, 9, none⟩ = some (.int .i64 s5) := (by rw [hN]; go_simp)
              clear hN p0 p1 p2 p3 p4 p5 lB nB nB1
              generalize w20.heap.size = R at *
              (try clear b0_w20); (try clear b1_w20); (try clear b2_w20); (try clear b3_w20); (try clear x0_w20); (try clear x1_w20); (try clear x2_w20); (try clear l_w20); (try clear m_w20); (try clear m1_w20); (try clear m2_w20); (try clear n_w20); (try clear n1_w20); (try clear la_w20); (try clear nb_w20); (try clear nc_w20); (try clear na_w20)
              clear hb_w20
              have l_w23 := World.block_lt_of_cell? _ _ b2_w23
              simp only at l_w23
              have m_w23 : w.heap.size < w23.heap.size := by omega
              have m1_w23 : w.heap.size < w23.heap.size + 1 := by omega
              have m2_w23 : w.heap.size + 1 < w23.heap.size + 1 := by omega
              have n_w23 : ¬ w.heap.size = w23.heap.size := by omega
              have n1_w23 : ¬ w.heap.size + 1 = w23.heap.size := by omega
              have lR := World.block_lt_of_cell? _ _ r0
              simp only at lR
              have nR : ¬ R = w23.heap.size := by omega
              have nR1 : R < w23.heap.size + 1 := by omega
              go_wp2_with fail
              refine wp_cut3 (fun g c B a9 => ((((((((((((((a9.put (some 116) (.int .i64 1)).put (some 117) (.pointer (some ⟨w.heap.size, 1, none⟩))).put (some 118) (.slice pb lb cb)).put (some 119) (.slice (some ⟨g, 0, none⟩) lb c)).put (some 120) (.agg #[.int .i64 oi, .int .i64 ol])).put (some 121) (.agg #[.string { data := #[110, 101, 120, 116] }, .int .i64 x, .int .i64 y, .int .i64 z, .int .i64 s0, .int .i64 s1, .int .i64 s2, .int .i64 s3, .int .i64 s4, .int .i64 s5])).put (some 122) (.slice (some ⟨B, 0, none⟩) 1 1)).put (some 123) (.agg #[.slice (some ⟨g, 0, none⟩) lb c, .int .i64 oi, .int .i64 ol, .slice (some ⟨B, 0, none⟩) 1 1])).put (some 124) (.tuple #[.int .i64 2, .int .i64 0])).put (some 115) (.tuple #[.int .i64 2, .int .i64 0])).put (some 125) (.int .i64 2)).put (some 126) (.int .i64 0)).put (some 16) (.int .i64 2)).put (some 17) (.int .i64 0))) (fun _ w24 => Below w3.heap.size w3 w24 ∧ w24.cell? ⟨w.heap.size, 0, none⟩ = some (.slice pa la ca) ∧ w24.cell? ⟨w.heap.size, 1, none⟩ = some (.slice pb lb cb) ∧ w24.cell? ⟨w.heap.size + 1, 0, none⟩ = some (.int .i64 oi) ∧ w24.cell? ⟨w.heap.size + 1, 1, none⟩ = some (.int .i64 ol) ∧ w24.cell? ⟨R, 0, none⟩ = some (.string { data := #[110, 101, 120, 116] }) ∧ w24.cell? ⟨R, 1, none⟩ = some (.int .i64 x) ∧ w24.cell? ⟨R, 2, none⟩ = some (.int .i64 y) ∧ w24.cell? ⟨R, 3, none⟩ = some (.int .i64 z) ∧ w24.cell? ⟨R, 4, none⟩ = some (.int .i64 s0) ∧ w24.cell? ⟨R, 5, none⟩ = some (.int .i64 s1) ∧ w24.cell? ⟨R, 6, none⟩ = some (.int .i64 s2) ∧ w24.cell? ⟨R, 7, none⟩ = some (.int .i64 s3) ∧ w24.cell? ⟨R, 8, none⟩ = some (.int .i64 s4) ∧ w24.cell? ⟨R, 9, none⟩ = some (.int .i64 s5)) ?_ ?_
              · (go_region_held3 (fun w' => w'.cell? ⟨w.heap.size, 0, none⟩ = some (.slice pa la ca) ∧ w'.cell? ⟨w.heap.size, 1, none⟩ = some (.slice pb lb cb) ∧ w'.cell? ⟨w.heap.size + 1, 0, none⟩ = some (.int .i64 oi) ∧ w'.cell? ⟨w.heap.size + 1, 1, none⟩ = some (.int .i64 ol) ∧ w'.cell? ⟨R, 0, none⟩ = some (.string { data := #[110, 101, 120, 116] }) ∧ w'.cell? ⟨R, 1, none⟩ = some (.int .i64 x) ∧ w'.cell? ⟨R, 2, none⟩ = some (.int .i64 y) ∧ w'.cell? ⟨R, 3, none⟩ = some (.int .i64 z) ∧ w'.cell? ⟨R, 4, none⟩ = some (.int .i64 s0) ∧ w'.cell? ⟨R, 5, none⟩ = some (.int .i64 s1) ∧ w'.cell? ⟨R, 6, none⟩ = some (.int .i64 s2) ∧ w'.cell? ⟨R, 7, none⟩ = some (.int .i64 s3) ∧ w'.cell? ⟨R, 8, none⟩ = some (.int .i64 s4) ∧ w'.cell? ⟨R, 9, none⟩ = some (.int .i64 s5)) (simp [*, go_sem])
                  (first
                    | (go_at_call 18; (with_reducible refine (CB.out _ ?_).mono ?_); (· exact blw); rintro E w9 ⟨g, c, rfl, ho, hb_w9⟩; have b0_w9 : w9.cell? ⟨w.heap.size, 0, none⟩ = some (.slice pa la ca) := keepC hb_w9 (by go_simp); have b1_w9 : w9.cell? ⟨w.heap.size, 1, none⟩ = some (.slice pb lb cb) := keepC hb_w9 (by go_simp); have b2_w9 : w9.cell? ⟨w.heap.size + 1, 0, none⟩ = some (.int .i64 oi) := keepC hb_w9 (by go_simp); have b3_w9 : w9.cell? ⟨w.heap.size + 1, 1, none⟩ = some (.int .i64 ol) := keepC hb_w9 (by go_simp); have l_w9 := World.block_lt_of_cell? _ _ b2_w9; simp only at l_w9; have m_w9 : w.heap.size < w9.heap.size := (by omega); have m1_w9 : w.heap.size < w9.heap.size + 1 := (by omega); have m2_w9 : w.heap.size + 1 < w9.heap.size + 1 := (by omega); have n_w9 : ¬ w.heap.size = w9.heap.size := (by omega); have n1_w9 : ¬ w.heap.size + 1 = w9.heap.size := (by omega); have r0_w9 : w9.cell? ⟨R, 0, none⟩ = some (.string { data := #[110, 101, 120, 116] }) := keepC hb_w9 (by go_simp); have r1_w9 : w9.cell? ⟨R, 1, none⟩ = some (.int .i64 x) := keepC hb_w9 (by go_simp); have r2_w9 : w9.cell? ⟨R, 2, none⟩ = some (.int .i64 y) := keepC hb_w9 (by go_simp); have r3_w9 : w9.cell? ⟨R, 3, none⟩ = some (.int .i64 z) := keepC hb_w9 (by go_simp); have r4_w9 : w9.cell? ⟨R, 4, none⟩ = some (.int .i64 s0) := keepC hb_w9 (by go_simp); have r5_w9 : w9.cell? ⟨R, 5, none⟩ = some (.int .i64 s1) := keepC hb_w9 (by go_simp); have r6_w9 : w9.cell? ⟨R, 6, none⟩ = some (.int .i64 s2) := keepC hb_w9 (by go_simp); have r7_w9 : w9.cell? ⟨R, 7, none⟩ = some (.int .i64 s3) := keepC hb_w9 (by go_simp); have r8_w9 : w9.cell? ⟨R, 8, none⟩ = some (.int .i64 s4) := keepC hb_w9 (by go_simp); have r9_w9 : w9.cell? ⟨R, 9, none⟩ = some (.int .i64 s5) := keepC hb_w9 (by go_simp); have lR_w9 := World.block_lt_of_cell? _ _ r0_w9; simp only at lR_w9; have nR_w9 : ¬ R = w9.heap.size := (by omega); (try (refine hv9 (blx hb_w9 rfl (w23.heap.size) ?_) (fun hq => ?_); (focus (first | omega | (simp; done) | (simp <;> omega))); obtain ⟨z1_w9, y1_w9, v1_w9, c1_w9, f1_w9⟩ := hq)); have hR := Lib.hid ho.row; clear ho)
                    | (go_at_call 51; refine (XB.out g c _ _ _ (hR.out.bel (show Below w9.heap.size w9 _ from blw)) ⟨by go_simp, by go_simp, by go_simp, by go_simp, by go_simp, by go_simp, by go_simp, by go_simp, by go_simp, by go_simp⟩).mono ?_; rintro E w10 ⟨rfl, hb_w10⟩; have b0_w10 : w10.cell? ⟨w.heap.size, 0, none⟩ = some (.slice pa la ca) := keepC hb_w10 (by go_simp); have b1_w10 : w10.cell? ⟨w.heap.size, 1, none⟩ = some (.slice pb lb cb) := keepC hb_w10 (by go_simp); have b2_w10 : w10.cell? ⟨w.heap.size + 1, 0, none⟩ = some (.int .i64 oi) := keepC hb_w10 (by go_simp); have b3_w10 : w10.cell? ⟨w.heap.size + 1, 1, none⟩ = some (.int .i64 ol) := keepC hb_w10 (by go_simp); have l_w10 := World.block_lt_of_cell? _ _ b2_w10; simp only at l_w10; have m_w10 : w.heap.size < w10.heap.size := (by omega); have m1_w10 : w.heap.size < w10.heap.size + 1 := (by omega); have m2_w10 : w.heap.size + 1 < w10.heap.size + 1 := (by omega); have n_w10 : ¬ w.heap.size = w10.heap.size := (by omega); have n1_w10 : ¬ w.heap.size + 1 = w10.heap.size := (by omega); have r0_w10 : w10.cell? ⟨R, 0, none⟩ = some (.string { data := #[110, 101, 120, 116] }) := keepC hb_w10 (by go_simp); have r1_w10 : w10.cell? ⟨R, 1, none⟩ = some (.int .i64 x) := keepC hb_w10 (by go_simp); have r2_w10 : w10.cell? ⟨R, 2, none⟩ = some (.int .i64 y) := keepC hb_w10 (by go_simp); have r3_w10 : w10.cell? ⟨R, 3, none⟩ = some (.int .i64 z) := keepC hb_w10 (by go_simp); have r4_w10 : w10.cell? ⟨R, 4, none⟩ = some (.int .i64 s0) := keepC hb_w10 (by go_simp); have r5_w10 : w10.cell? ⟨R, 5, none⟩ = some (.int .i64 s1) := keepC hb_w10 (by go_simp); have r6_w10 : w10.cell? ⟨R, 6, none⟩ = some (.int .i64 s2) := keepC hb_w10 (by go_simp); have r7_w10 : w10.cell? ⟨R, 7, none⟩ = some (.int .i64 s3) := keepC hb_w10 (by go_simp); have r8_w10 : w10.cell? ⟨R, 8, none⟩ = some (.int .i64 s4) := keepC hb_w10 (by go_simp); have r9_w10 : w10.cell? ⟨R, 9, none⟩ = some (.int .i64 s5) := keepC hb_w10 (by go_simp))
                  ))
                all_goals
                  first | (refine ⟨rfl, g, c, w23.heap.size, rfl, ?_⟩) | (refine ⟨rfl, g, c, w9.heap.size, rfl, ?_⟩)
                  exact ⟨blw, (by go_simp), (by go_simp), (by go_simp), (by go_simp), (by go_simp), (by go_simp), (by go_simp), (by go_simp), (by go_simp), (by go_simp), (by go_simp), (by go_simp), (by go_simp), (by go_simp)⟩
              intro g c B w24 hR24
              obtain ⟨hb_w24, b0_w24, b1_w24, b2_w24, b3_w24, u0, u1, u2, u3, u4, u5, u6, u7, u8, u9⟩ := hR24
              clear r0 r1 r2 r3 r4 r5 r6 r7 r8 r9 lR nR nR1 hb_w23
              have l_w24 := World.block_lt_of_cell? _ _ b2_w24
              simp only at l_w24
              have m_w24 : w.heap.size < w24.heap.size := by omega
              have m1_w24 : w.heap.size < w24.heap.size + 1 := by omega
              have m2_w24 : w.heap.size + 1 < w24.heap.size + 1 := by omega
              have n_w24 : ¬ w.heap.size = w24.heap.size := by omega
              have n1_w24 : ¬ w.heap.size + 1 = w24.heap.size := by omega
              have lR := World.block_lt_of_cell? _ _ u0
              simp only at lR
              have nR : ¬ R = w24.heap.size := by omega
              have nR1 : R < w24.heap.size + 1 := by omega
              simp only [Act.put, List.setIfInBounds_toArray, List.set_cons_zero, List.set_cons_succ]
              have v0a : IntKind.i64.wrap (1 - 0) = 1 := by decide
              have v1a : IntKind.i64.wrap (1 - 1) = 0 := by decide
              have v2a : IntKind.i64.wrap 1 = 1 := by decide
              have v3a : IntKind.i64.wrap 0 = 0 := by decide
              have v4a : IntKind.i64.wrap (1 - ((0 : Nat) : Int)) = 1 := by decide
              have v5a : IntKind.i64.wrap (1 - ((1 : Nat) : Int)) = 0 := by decide
              go_wp2_with fail
              refine wp_cut3 (fun g c B a9 => (((((((((((((((a9.put (some 128) (.int .i64 1)).put (some 129) (.int .i64 0)).put (some 130) (.pointer (some ⟨w.heap.size, 0, none⟩))).put (some 131) (.slice pa la ca)).put (some 132) (.slice (some ⟨g, 0, none⟩) la c)).put (some 133) (.agg #[.int .i64 oi, .int .i64 ol])).put (some 134) (.agg #[.string { data := #[110, 101, 120, 116] }, .int .i64 x, .int .i64 y, .int .i64 z, .int .i64 s0, .int .i64 s1, .int .i64 s2, .int .i64 s3, .int .i64 s4, .int .i64 s5])).put (some 135) (.slice (some ⟨B, 0, none⟩) 1 1)).put (some 136) (.agg #[.slice (some ⟨g, 0, none⟩) la c, .int .i64 oi, .int .i64 ol, .slice (some ⟨B, 0, none⟩) 1 1])).put (some 137) (.tuple #[.int .i64 0, .int .i64 0])).put (some 127) (.tuple #[.int .i64 0, .int .i64 0])).put (some 138) (.int .i64 0)).put (some 139) (.int .i64 0)).put (some 18) (.int .i64 0)).put (some 19) (.int .i64 0))) (fun _ w24 => Below w3.heap.size w3 w24) ?_ ?_
              · (go_region_held3 (fun w' => w'.cell? ⟨w.heap.size, 0, none⟩ = some (.slice pa la ca) ∧ w'.cell? ⟨w.heap.size, 1, none⟩ = some (.slice pb lb cb) ∧ w'.cell? ⟨w.heap.size + 1, 0, none⟩ = some (.int .i64 oi) ∧ w'.cell? ⟨w.heap.size + 1, 1, none⟩ = some (.int .i64 ol) ∧ w'.cell? ⟨R, 0, none⟩ = some (.string { data := #[110, 101, 120, 116] }) ∧ w'.cell? ⟨R, 1, none⟩ = some (.int .i64 x) ∧ w'.cell? ⟨R, 2, none⟩ = some (.int .i64 y) ∧ w'.cell? ⟨R, 3, none⟩ = some (.int .i64 z) ∧ w'.cell? ⟨R, 4, none⟩ = some (.int .i64 s0) ∧ w'.cell? ⟨R, 5, none⟩ = some (.int .i64 s1) ∧ w'.cell? ⟨R, 6, none⟩ = some (.int .i64 s2) ∧ w'.cell? ⟨R, 7, none⟩ = some (.int .i64 s3) ∧ w'.cell? ⟨R, 8, none⟩ = some (.int .i64 s4) ∧ w'.cell? ⟨R, 9, none⟩ = some (.int .i64 s5)) (simp [*, go_sem])
                  (first
                    | (go_at_call 18; (with_reducible refine (CA.out _ ?_).mono ?_); (· exact blw); rintro E w11 ⟨g, c, rfl, ho, hb_w11⟩; have b0_w11 : w11.cell? ⟨w.heap.size, 0, none⟩ = some (.slice pa la ca) := keepC hb_w11 (by go_simp); have b1_w11 : w11.cell? ⟨w.heap.size, 1, none⟩ = some (.slice pb lb cb) := keepC hb_w11 (by go_simp); have b2_w11 : w11.cell? ⟨w.heap.size + 1, 0, none⟩ = some (.int .i64 oi) := keepC hb_w11 (by go_simp); have b3_w11 : w11.cell? ⟨w.heap.size + 1, 1, none⟩ = some (.int .i64 ol) := keepC hb_w11 (by go_simp); have l_w11 := World.block_lt_of_cell? _ _ b2_w11; simp only at l_w11; have m_w11 : w.heap.size < w11.heap.size := (by omega); have m1_w11 : w.heap.size < w11.heap.size + 1 := (by omega); have m2_w11 : w.heap.size + 1 < w11.heap.size + 1 := (by omega); have n_w11 : ¬ w.heap.size = w11.heap.size := (by omega); have n1_w11 : ¬ w.heap.size + 1 = w11.heap.size := (by omega); have u0_w11 : w11.cell? ⟨R, 0, none⟩ = some (.string { data := #[110, 101, 120, 116] }) := keepC hb_w11 (by go_simp); have u1_w11 : w11.cell? ⟨R, 1, none⟩ = some (.int .i64 x) := keepC hb_w11 (by go_simp); have u2_w11 : w11.cell? ⟨R, 2, none⟩ = some (.int .i64 y) := keepC hb_w11 (by go_simp); have u3_w11 : w11.cell? ⟨R, 3, none⟩ = some (.int .i64 z) := keepC hb_w11 (by go_simp); have u4_w11 : w11.cell? ⟨R, 4, none⟩ = some (.int .i64 s0) := keepC hb_w11 (by go_simp); have u5_w11 : w11.cell? ⟨R, 5, none⟩ = some (.int .i64 s1) := keepC hb_w11 (by go_simp); have u6_w11 : w11.cell? ⟨R, 6, none⟩ = some (.int .i64 s2) := keepC hb_w11 (by go_simp); have u7_w11 : w11.cell? ⟨R, 7, none⟩ = some (.int .i64 s3) := keepC hb_w11 (by go_simp); have u8_w11 : w11.cell? ⟨R, 8, none⟩ = some (.int .i64 s4) := keepC hb_w11 (by go_simp); have u9_w11 : w11.cell? ⟨R, 9, none⟩ = some (.int .i64 s5) := keepC hb_w11 (by go_simp); have lR_w11 := World.block_lt_of_cell? _ _ u0_w11; simp only at lR_w11; have nR_w11 : ¬ R = w11.heap.size := (by omega); (try (refine hv9 (blx hb_w11 rfl (w24.heap.size) ?_) (fun hq => ?_); (focus (first | omega | (simp; done) | (simp <;> omega))); obtain ⟨z1_w11, y1_w11, v1_w11, c1_w11, f1_w11⟩ := hq)); have hR := Lib.hid ho.row; clear ho)
                    | (go_at_call 50; refine (RA.out g c _ _ _ (hR.out.bel (show Below w11.heap.size w11 _ from blw)) ⟨by go_simp, by go_simp, by go_simp, by go_simp, by go_simp, by go_simp, by go_simp, by go_simp, by go_simp, by go_simp⟩).mono ?_; rintro E w12 ⟨rfl, hb_w12⟩; have b0_w12 : w12.cell? ⟨w.heap.size, 0, none⟩ = some (.slice pa la ca) := keepC hb_w12 (by go_simp); have b1_w12 : w12.cell? ⟨w.heap.size, 1, none⟩ = some (.slice pb lb cb) := keepC hb_w12 (by go_simp); have b2_w12 : w12.cell? ⟨w.heap.size + 1, 0, none⟩ = some (.int .i64 oi) := keepC hb_w12 (by go_simp); have b3_w12 : w12.cell? ⟨w.heap.size + 1, 1, none⟩ = some (.int .i64 ol) := keepC hb_w12 (by go_simp); have l_w12 := World.block_lt_of_cell? _ _ b2_w12; simp only at l_w12; have m_w12 : w.heap.size < w12.heap.size := (by omega); have m1_w12 : w.heap.size < w12.heap.size + 1 := (by omega); have m2_w12 : w.heap.size + 1 < w12.heap.size + 1 := (by omega); have n_w12 : ¬ w.heap.size = w12.heap.size := (by omega); have n1_w12 : ¬ w.heap.size + 1 = w12.heap.size := (by omega); have u0_w12 : w12.cell? ⟨R, 0, none⟩ = some (.string { data := #[110, 101, 120, 116] }) := keepC hb_w12 (by go_simp); have u1_w12 : w12.cell? ⟨R, 1, none⟩ = some (.int .i64 x) := keepC hb_w12 (by go_simp); have u2_w12 : w12.cell? ⟨R, 2, none⟩ = some (.int .i64 y) := keepC hb_w12 (by go_simp); have u3_w12 : w12.cell? ⟨R, 3, none⟩ = some (.int .i64 z) := keepC hb_w12 (by go_simp); have u4_w12 : w12.cell? ⟨R, 4, none⟩ = some (.int .i64 s0) := keepC hb_w12 (by go_simp); have u5_w12 : w12.cell? ⟨R, 5, none⟩ = some (.int .i64 s1) := keepC hb_w12 (by go_simp); have u6_w12 : w12.cell? ⟨R, 6, none⟩ = some (.int .i64 s2) := keepC hb_w12 (by go_simp); have u7_w12 : w12.cell? ⟨R, 7, none⟩ = some (.int .i64 s3) := keepC hb_w12 (by go_simp); have u8_w12 : w12.cell? ⟨R, 8, none⟩ = some (.int .i64 s4) := keepC hb_w12 (by go_simp); have u9_w12 : w12.cell? ⟨R, 9, none⟩ = some (.int .i64 s5) := keepC hb_w12 (by go_simp))
                  ))
                all_goals
                  first | (refine ⟨rfl, g, c, w24.heap.size, rfl, ?_⟩) | (refine ⟨rfl, g, c, w11.heap.size, rfl, ?_⟩)
                  exact blw
              intro g c B w25 hb_w25
              simp only [Act.put, List.setIfInBounds_toArray, List.set_cons_zero, List.set_cons_succ]
              go_wp2_with fail
              go_roundw
              case rel => exact ⟨1 + 1, by omega, by first | rfl | (simp; done) | (simp; omega), blw⟩
              case measure => simp [intOf]
            · clear CA CB PA PB XA XB RA RB HZ HI HL
              repeat' (first | go_values | go_skip | go_guarded | go_step | go_upon | (simp only []; go_simp))
              go_ret
              exact ⟨rfl, blw⟩
end Go.Proofs.YtjbfaaolfonmaaaGreat

