/- The first setting that tells two boxes apart: the program's walks. -/
import Derived.Test.YtjbfaaolfonmaaaGreatTells
import Derived.Test.YtjbfaaolfonmaaaGreatKBall
import Derived.Test.YtjbfaaolfonmaaaGreatZs
namespace Go.Proofs.YtjbfaaolfonmaaaGreat
open Go Go.Sort Go.RowKit

/-- A search in a row of settings. -/
def FoundAt (B : Nat → Bool) (n : Nat) (r : Int) : Prop := (r < 0 ∧ ∀ j, j < n → B j = false) ∨ ∃ i : Nat, i < n ∧ r = i ∧ B i = true ∧ ∀ j, j < i → B j = false
set_option maxHeartbeats 4000000 in
theorem indexFunc_any (p : Option Addr) (n cp : Nat) (Z : Nat → Nat → Int) (f : Nat) (cap : Array Value) (B : Nat → Bool) (hn : n ≤ 1000) (w : World) (hz : Zs p n 3 Z w) (eg : ∀ args w, (callFunc f args).run Tryz.prog w = .ok (.enter f args) w)
    (hf : ∀ i, i < n → ∀ w', Below w.heap.size w w' → Calls Tryz.prog f (#[.agg #[.int .i64 (Z i 0), .int .i64 (Z i 1), .int .i64 (Z i 2)]] ++ cap) w' fun E w2 => E = .returned (.bool (B i)) ∧ Below w'.heap.size w' w2) :
    Calls Tryz.prog 103 #[.slice p n cp, .func (.func f) #[] cap] w fun E w' => ∃ r : Int, E = .returned (.int .i64 r) ∧ FoundAt B n r ∧ Below w.heap.size w w' := by
  have HF := Lib.hid hf
  have HZ := Lib.hid hz
  clear hf hz
  go_enter Tryz.func103, Tryz.ntmps103
  go_wp2_with fail
  go_loopw [8] (fun i wr => ∃ k : Nat, k ≤ n ∧ i = .int .i64 k ∧ Hid (∀ j, j < k → B j = false) ∧ Below w.heap.size w wr) (fun i _ => n - (intOf i).toNat)
  case atStart => exact ⟨0, by omega, rfl, Lib.hid (fun j hj => by omega), blw⟩
  case round =>
    obtain ⟨k, hk, rfl, HB, hb_wr⟩ := hrel
    by_cases hlt : k < n
    · obtain ⟨a, rfl, ca⟩ := (HZ.out.bel hb_wr).get k hlt
      have r0 := ca 0 (by omega)
      have r1 := ca 1 (by omega)
      have r2 := ca 2 (by omega)
      rw [Nat.add_zero] at r0
      have e2 : (⟨(a.add (k * 3)).block, (a.add (k * 3)).off + 2, none⟩ : Addr) = a.add (k * 3 + 2) := by
        unfold Addr.add
        by_cases h : k * 3 = 0
        · rw [h]; simp
        · simp [h]; omega
      rw [← add_off] at r1
      rw [← e2] at r2
      have CF := Lib.hid (HF.out k hlt)
      have hlt2 : (k : Int) < n := by omega
      have HB2 := Lib.hid (fun (h : B k = false) j (hj : j < k + 1) => show B j = false from by
        by_cases hjk : j < k
        · exact HB.out j hjk
        · obtain rfl : j = k := by omega
          exact h)
      have HB3 := Lib.hid (fun (h : B k = true) => show FoundAt B n k from .inr ⟨k, hlt, rfl, h, HB.out⟩)
      clear ca e2 HB HF HZ
      generalize B k = t at *
      generalize Z k 0 = x at *
      generalize Z k 1 = y at *
      generalize Z k 2 = z at *
      go_wp2_with fail
      refine (CF.out _ blw).mono ?_
      rintro E w2 ⟨rfl, hb_w2⟩
      cases t
      case true =>
        have HB5 := Lib.hid (HB3.out rfl)
        clear HB2 HB3
        go_wp2
        (with_reducible show bodyPost _ _ _ _ _ _); refine bodyPost_ret (by simp [results, Tryz.results103, go_sem, *]; first | done | rfl) rfl ?_
        exact ⟨_, rfl, HB5.out, blw⟩
      case false =>
        have HB4 := Lib.hid (HB2.out rfl)
        clear HB2 HB3
        go_wp2_with fail
        go_roundw
        case rel => exact ⟨k + 1, by omega, by first | (simp; done) | (simp; omega), HB4, blw⟩
        case measure => simp [intOf]; omega
    · obtain rfl : k = n := by omega
      have hlt2 : ¬ ((k : Int) < k) := by omega
      have HB := Lib.hid (show FoundAt B k (-1) from .inl ⟨by decide, HB.out⟩)
      clear HF HZ
      go_wp2
      (with_reducible show bodyPost _ _ _ _ _ _); refine bodyPost_ret (by simp [results, Tryz.results103, go_sem, *]; first | done | rfl) rfl ?_
      exact ⟨_, rfl, HB.out, blw⟩

set_option maxHeartbeats 2000000 in
theorem telling1_any (wv ix si oi ol : Int) (A B : List Box) (pa pb : Option Addr) (ca cb g h : Nat) (hs : setQ wv ix si = 0) (ha : checkQ A = 0) (hb : checkQ B = 0) (ho : onQ oi ol = 0) (w : World) (ra : Row pa A w) (rb : Row pb B w)
    (g0 : w.cell? ⟨g, 0, none⟩ = some (.slice pa A.length ca)) (g1 : w.cell? ⟨g, 1, none⟩ = some (.slice pb B.length cb)) (h0 : w.cell? ⟨h, 0, none⟩ = some (.int .i64 oi)) (h1 : w.cell? ⟨h, 1, none⟩ = some (.int .i64 ol)) :
    Calls Tryz.prog 104 #[.agg #[.int .i64 wv, .int .i64 ix, .int .i64 si], .pointer (some ⟨g, 0, none⟩), .pointer (some ⟨h, 0, none⟩)] w fun E w' => E = .returned (.bool (tellsB wv ix si A B oi ol)) ∧ Below w.heap.size w w' := by
  have TE := fun w' (h : Below w.heap.size w w') => tells_any wv ix si oi ol A B pa pb ca cb hs ha hb ho w' (ra.bel h) (rb.bel h)
  generalize tellsB wv ix si A B oi ol = t at *
  unfold pairV at TE
  clear ra rb hs ha hb ho
  generalize A.length = n at *
  generalize B.length = m at *
  have TE := Lib.hid TE
  have lg := World.block_lt_of_cell? _ _ g0
  have lh := World.block_lt_of_cell? _ _ h0
  simp only at lg lh
  have n1 : ¬ g = w.heap.size := by omega
  have n2 : ¬ h = w.heap.size := by omega
  have n3 : g < w.heap.size + 1 := by omega
  have n4 : h < w.heap.size + 1 := by omega
  go_enter Tryz.func104, Tryz.ntmps104
  go_wp2_with fail
  refine (TE.out _ blw).mono ?_
  rintro E w2 ⟨rfl, hb_w2⟩
  repeat' (first | go_values | go_skip | go_guarded | go_step | go_upon | (simp only []; go_simp))
  (with_reducible show bodyPost _ _ _ _ _ _); refine bodyPost_ret (by simp [results, Tryz.results104, go_sem, *]; first | done | rfl) rfl ?_
  exact ⟨rfl, blw⟩

/-- What is known where a setting is found. -/
def ToldAt (n : Nat) (Z : Nat → Nat → Int) (A B : List Box) (oi ol : Int) (i : Nat) : Prop :=
  i < n ∧ (∀ j, j < n → setQ (Z j 0) (Z j 1) (Z j 2) = 0) ∧ checkQ A = 0 ∧ checkQ B = 0 ∧ onQ oi ol = 0 ∧ tellsB (Z i 0) (Z i 1) (Z i 2) A B oi ol = true ∧ ∀ j, j < i → tellsB (Z j 0) (Z j 1) (Z j 2) A B oi ol = false
def FirstRet (n : Nat) (Z : Nat → Nat → Int) (A B : List Box) (oi ol : Int) (w : World) (E : Ending) (w' : World) : Prop :=
  ∃ r e : Int, E = .returned (.tuple #[.int .i64 r, .int .i64 e]) ∧ ((e ≠ 0 ∧ r = 0) ∨ (e = 0 ∧ ∃ i : Nat, r = i ∧ ToldAt n Z A B oi ol i)) ∧ Below w.heap.size w w'
theorem firstRet_err {n : Nat} {Z : Nat → Nat → Int} {A B : List Box} {oi ol q : Int} {w w' : World} (hq : q ≠ 0) (h : Below w.heap.size w w') : FirstRet n Z A B oi ol w (.returned (.tuple #[.int .i64 0, .int .i64 q])) w' := ⟨0, q, rfl, .inl ⟨hq, rfl⟩, h⟩

set_option maxRecDepth 100000 in
set_option maxHeartbeats 8000000 in
theorem FirstTelling_any (p : Option Addr) (n cp : Nat) (Z : Nat → Nat → Int) (A B : List Box) (pa pb : Option Addr) (ca cb : Nat) (oi ol : Int) (hn : n ≤ 20) (w : World) (hz : Zs p n 3 Z w) (ra : Row pa A w) (rb : Row pb B w) :
    Calls Tryz.prog 40 #[.slice p n cp, pairV pa pb A B ca cb, .agg #[.int .i64 oi, .int .i64 ol]] w fun E w' => FirstRet n Z A B oi ol w E w' := by
  have eg := enters_of Tryz.func104 (by kernel_rfl) rfl
  have PE := Lib.hid (fun w' (h : Below w.heap.size w w') => pairErr_any A B pa pb ca cb w' (ra.bel h) (rb.bel h))
  have OE := Lib.hid (fun w => onErr_any oi ol w)
  have T1 := Lib.hid (fun (ha : checkQ A = 0) (hb : checkQ B = 0) (ho : onQ oi ol = 0) j (hj : setQ (Z j 0) (Z j 1) (Z j 2) = 0) g h w' (hw : Below w.heap.size w w') g0 g1 h0 h1 => telling1_any (Z j 0) (Z j 1) (Z j 2) oi ol A B pa pb ca cb g h hj ha hb ho w' (ra.bel hw) (rb.bel hw) g0 g1 h0 h1)
  have HZ := Lib.hid hz
  have n20 : ¬ ((20 : Int) < n) := by omega
  obtain ⟨qa, hqa⟩ : ∃ q, checkQ A = q := ⟨_, rfl⟩
  obtain ⟨qb, hqb⟩ : ∃ q, checkQ B = q := ⟨_, rfl⟩
  obtain ⟨qo, hqo⟩ : ∃ q, onQ oi ol = q := ⟨_, rfl⟩
  have HQ := Lib.hid (And.intro hqa (And.intro hqb hqo))
  rw [hqa, hqb, hqo] at T1
  rw [hqa, hqb] at PE
  rw [hqo] at OE
  unfold pairV at *
  have RET : Hid (∀ E w', FirstRet n Z A B oi ol w E w' → FirstRet n Z A B oi ol w E w') := Lib.hid (fun _ _ h => h)
  clear hz ra rb hqa hqb hqo
  obtain ⟨la, hla⟩ : ∃ q, A.length = q := ⟨_, rfl⟩
  obtain ⟨lb, hlb⟩ : ∃ q, B.length = q := ⟨_, rfl⟩
  rw [hla, hlb] at T1 PE ⊢
  clear hla hlb
  go_enter Tryz.func40, Tryz.ntmps40
  repeat (first | (with_reducible refine wp_markr 4 ?_) | go_values | go_skip | go_guarded | go_step | go_upon | (simp only []; go_simp))
  refine wp_named (fun w1 hN_w1 => ?_)
  have hs_w1 := congrArg (fun w => w.heap.size) hN_w1
  (try simp at hs_w1)
  replace hs_w1 := Nat.le_of_eq hs_w1.symm
  have hb_w1 : Below w.heap.size w w1 := (by rw [hN_w1]; exact blw)
  have hz_w1_w : w.heap.size < w1.heap.size := (by omega)
  have hy_w1_w : w.heap.size < w1.heap.size + 1 := (by omega)
  have hx_w1_w : w.heap.size < w1.heap.size + 1 + 1 := (by omega)
  have s0_w1_w : w1.cell? ⟨w.heap.size, 0, none⟩ = some (Value.slice pa la ca) := (by rw [hN_w1]; go_simp)
  have s1_w1_w : w1.cell? ⟨w.heap.size, 1, none⟩ = some (Value.slice pb lb cb) := (by rw [hN_w1]; go_simp)
  have sf_w1_w : ∀ o, w1.frozen? ⟨w.heap.size, o, none⟩ = false := (fun o => by rw [hN_w1]; go_simp)
  have hz_w1_wp1 : w.heap.size + 1 < w1.heap.size := (by omega)
  have hy_w1_wp1 : w.heap.size + 1 < w1.heap.size + 1 := (by omega)
  have hx_w1_wp1 : w.heap.size + 1 < w1.heap.size + 1 + 1 := (by omega)
  have s0_w1_wp1 : w1.cell? ⟨w.heap.size + 1, 0, none⟩ = some (Value.int .i64 oi) := (by rw [hN_w1]; go_simp)
  have s1_w1_wp1 : w1.cell? ⟨w.heap.size + 1, 1, none⟩ = some (Value.int .i64 ol) := (by rw [hN_w1]; go_simp)
  have sf_w1_wp1 : ∀ o, w1.frozen? ⟨w.heap.size + 1, o, none⟩ = false := (fun o => by rw [hN_w1]; go_simp)
  clear hN_w1
  skip
  go_loopw [18] (fun i wr => ∃ k : Nat, k ≤ n ∧ i = .int .i64 k ∧ Hid (∀ j, j < k → setQ (Z j 0) (Z j 1) (Z j 2) = 0) ∧ Below w1.heap.size w1 wr) (fun i _ => n - (intOf i).toNat)
  case atStart => exact ⟨0, by omega, rfl, Lib.hid (fun j hj => by omega), blw⟩
  case round =>
    obtain ⟨k, hk, rfl, HB, hb_wr⟩ := hrel
    have hs_wr := hb_wr.size
    (try simp at hs_wr)
    obtain ⟨hz_wr_w, hy_wr_w, hx_wr_w, hc_wr_w, hf_wr_w⟩ := bl5 hb_wr (w.heap.size)
    obtain ⟨hz_wr_wp1, hy_wr_wp1, hx_wr_wp1, hc_wr_wp1, hf_wr_wp1⟩ := bl5 hb_wr (w.heap.size + 1)
    by_cases hlt : k < n
    · obtain ⟨a, rfl, c⟩ := (HZ.out.bel (show Below w.heap.size w wr from blw)).get k hlt
      have r0 := c 0 (by omega)
      have r1 := c 1 (by omega)
      have r2 := c 2 (by omega)
      rw [Nat.add_zero] at r0
      have e2 : (⟨(a.add (k * 3)).block, (a.add (k * 3)).off + 2, none⟩ : Addr) = a.add (k * 3 + 2) := by
        unfold Addr.add
        by_cases h : k * 3 = 0
        · rw [h]; simp
        · simp [h]; omega
      rw [← add_off] at r1
      rw [← e2] at r2
      have SE := Lib.hid (fun w => settingErr_any (Z k 0) (Z k 1) (Z k 2) w)
      have hlt2 : (k : Int) < n := by omega
      have HB2 := Lib.hid (fun (h : setQ (Z k 0) (Z k 1) (Z k 2) = 0) j (hj : j < k + 1) => show setQ (Z j 0) (Z j 1) (Z j 2) = 0 from by
        by_cases hjk : j < k
        · exact HB.out j hjk
        · obtain rfl : j = k := by omega
          exact h)
      clear c e2 HB HZ T1 PE OE
      by_cases hq : setQ (Z k 0) (Z k 1) (Z k 2) = 0
      · have HB4 := Lib.hid (HB2.out hq)
        rw [hq] at SE
        clear hq HB2
        generalize Z k 0 = x at *
        generalize Z k 1 = y at *
        generalize Z k 2 = z at *
        go_wp2_with fail
        refine (SE.out _).mono ?_
        rintro e w21 ⟨rfl, hb_w21⟩
        have hs_w21 := hb_w21.size
        (try simp at hs_w21)
        go_wp2_with fail
        go_roundw
        case rel => exact ⟨k + 1, by omega, by first | (simp; done) | (simp; omega), HB4, blw⟩
        case measure => simp [intOf]; omega
      · have hq1 : (setQ (Z k 0) (Z k 1) (Z k 2) != 0) = true := by simpa using hq
        clear HB2
        generalize setQ (Z k 0) (Z k 1) (Z k 2) = Q at *
        generalize Z k 0 = x at *
        generalize Z k 1 = y at *
        generalize Z k 2 = z at *
        go_wp2_with fail
        refine (SE.out _).mono ?_
        rintro e w21 ⟨rfl, hb_w21⟩
        have hs_w21 := hb_w21.size
        (try simp at hs_w21)
        repeat' (first | go_values | go_skip | go_guarded | go_step | go_upon | (simp only []; go_simp))
        go_ret2
        exact RET.out _ _ (firstRet_err hq blw)
    · obtain rfl : k = n := by omega
      have hlt2 : ¬ ((k : Int) < k) := by omega
      obtain ⟨f, hf⟩ : ∃ f, fst2 (fst2 qa qb) qo = f := ⟨_, rfl⟩
      go_wp2_with fail
      refine calm 4 (by kernel_rfl) (by kernel_rfl) fun hG => ?_
      have hg_w := hG (w.heap.size) lto
      have hg_wp1 := hG (w.heap.size + 1) lto
      clear hG
      simp only [List.take_succ_cons, List.take_zero, List.drop_succ_cons, List.drop_zero]
      repeat (go_big_quiet_step (first | (go_at_call 102; with_reducible exact Calls.regrown_of (PE.out _ (bl_call blw (below_regrown _ _ _)))) | (go_at_call 76; with_reducible exact calm_call OE.out)))
      refine wpQuiet_nil ?_
      intro w21 hb_w21
      clear hg_w hg_wp1
      have hs_w21 := hb_w21.size
      (try simp at hs_w21)
      obtain ⟨hz_w21_w, hy_w21_w, hx_w21_w, hc_w21_w, hf_w21_w⟩ := bl5 hb_w21 (w.heap.size)
      obtain ⟨hz_w21_wp1, hy_w21_wp1, hx_w21_wp1, hc_w21_wp1, hf_w21_wp1⟩ := bl5 hb_w21 (w.heap.size + 1)
      go_wp2_with fail
      refine (first2_any _ _ (fst2 qa qb) qo _ (by go_simp) (by go_simp)).mono ?_
      rintro e w' ⟨rfl, hw'⟩
      rw [hw', hf]
      clear hw' w'
      by_cases hq : f = 0
      · subst hq
        obtain ⟨q3, q4⟩ := fst2_zero hf
        obtain ⟨q1, q2⟩ := fst2_zero q3
        have IX := Lib.hid (fun w' (hw : Below w.heap.size w w') (g0 : w'.cell? ⟨w.heap.size, 0, none⟩ = some (.slice pa la ca)) (g1 : w'.cell? ⟨w.heap.size, 1, none⟩ = some (.slice pb lb cb)) (h0 : w'.cell? ⟨w.heap.size + 1, 0, none⟩ = some (.int .i64 oi)) (h1 : w'.cell? ⟨w.heap.size + 1, 1, none⟩ = some (.int .i64 ol)) =>
          indexFunc_any p k cp Z 104 #[.pointer (some ⟨w.heap.size, 0, none⟩), .pointer (some ⟨w.heap.size + 1, 0, none⟩)] (fun j => tellsB (Z j 0) (Z j 1) (Z j 2) A B oi ol) (by omega) w' (HZ.out.bel hw) eg
            (fun j hj w2 h2 => T1.out q1 q2 q4 j (HB.out j hj) _ _ w2 (hw.trans (h2.mono hw.size)) ((h2.cell (World.block_lt_of_cell? _ _ g0)).trans g0) ((h2.cell (World.block_lt_of_cell? _ _ g1)).trans g1) ((h2.cell (World.block_lt_of_cell? _ _ h0)).trans h0) ((h2.cell (World.block_lt_of_cell? _ _ h1)).trans h1)))
        have GOOD : Hid (∀ i : Nat, i < k → tellsB (Z i 0) (Z i 1) (Z i 2) A B oi ol = true → (∀ j, j < i → tellsB (Z j 0) (Z j 1) (Z j 2) A B oi ol = false) → ToldAt k Z A B oi ol i) := Lib.hid (fun i hi h1 h2 => ⟨hi, HB.out, HQ.out.1.trans q1, HQ.out.2.1.trans q2, HQ.out.2.2.trans q4, h1, h2⟩)
        clear q1 q2 q3 q4 hf T1 PE OE HQ HZ HB
        go_wp2_with fail
        refine (IX.out _ blw (by go_simp) (by go_simp) (by go_simp) (by go_simp)).mono ?_
        rintro E w22 ⟨r, rfl, hr, hb_w22⟩
        rcases hr with ⟨hr, _⟩ | ⟨i, hi, rfl, h1, h2⟩
        · clear IX GOOD
          repeat' (first | go_values | go_skip | go_guarded | go_step | go_upon | (simp only []; go_simp))
          (with_reducible show bodyPost _ _ _ _ _ _); refine bodyPost_ret (by simp [results, Tryz.results40, go_sem, *]; first | done | rfl) rfl ?_
          exact RET.out _ _ (firstRet_err (by decide) blw)
        · have G := Lib.hid (GOOD.out i hi h1 h2)
          have hi0 : ¬ ((i : Int) < 0) := by omega
          clear IX GOOD h1 h2
          repeat' (first | go_values | go_skip | go_guarded | go_step | go_upon | (simp only []; go_simp))
          (with_reducible show bodyPost _ _ _ _ _ _); refine bodyPost_ret (by simp [results, Tryz.results40, go_sem, *]; first | done | rfl) rfl ?_
          exact RET.out _ _ ⟨_, _, rfl, .inr ⟨rfl, i, rfl, G.out⟩, blw⟩
      · have hq1 : (f != 0) = true := by simpa using hq
        clear HZ T1 PE OE HQ HB hf
        repeat' (first | go_values | go_skip | go_guarded | go_step | go_upon | (simp only []; go_simp))
        (with_reducible show bodyPost _ _ _ _ _ _); refine bodyPost_ret (by simp [results, Tryz.results40, go_sem, *]; first | done | rfl) rfl ?_
        exact RET.out _ _ (firstRet_err hq blw)
end Go.Proofs.YtjbfaaolfonmaaaGreat
