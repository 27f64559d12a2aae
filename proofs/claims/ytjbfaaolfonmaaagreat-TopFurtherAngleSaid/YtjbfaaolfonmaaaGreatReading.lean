/- A reading of what would be read is right: the program's walks. -/
import Derived.Test.YtjbfaaolfonmaaaGreatApart
import Derived.Laws.IdiomStrings
namespace Go.Proofs.YtjbfaaolfonmaaaGreat
open Go Go.Sort Go.RowKit

theorem name_bytes (w : World) : ∃ w' c, (convert 9 311 (.string { data := #[110, 101, 120, 116] })).run Tryz.prog w = .ok (.slice (some ⟨w.heap.size, 0, none⟩) 4 c) w' ∧ Below w.heap.size w w' ∧ w.heap.size < w'.heap.size ∧
    w'.cell? ⟨w.heap.size, 0, none⟩ = some (.int .u8 110) ∧ w'.cell? ⟨w.heap.size, 1, none⟩ = some (.int .u8 101) ∧ w'.cell? ⟨w.heap.size, 2, none⟩ = some (.int .u8 120) ∧ w'.cell? ⟨w.heap.size, 3, none⟩ = some (.int .u8 116) := by
  have h := run_bytes_of_string (P := Tryz.prog) w 9 311 5 { data := #[110, 101, 120, 116] } Tryz.underlying9 Tryz.underlying311 Tryz.underlying5
  refine ⟨_, _, h, ?_, by simp, ?_, ?_, ?_, ?_⟩
  · exact (Below.refl _ _).drew.alloc (by simp) _
  all_goals
    refine (cell_of_row _ _ _ _ _ _ (heap_alloc_new w.drew _)).trans ?_
    unfold bytesRow
    rw [Array.getElem?_append_left (by simp)]
    simp
set_option maxRecDepth 100000 in
set_option maxHeartbeats 4000000 in
theorem isName_next (w : World) : Calls Tryz.prog 185 #[.string { data := #[110, 101, 120, 116] }] w fun E w' => E = .returned (.bool true) ∧ Below w.heap.size w w' := by
  obtain ⟨w1, c, e, hb, hs, c0, c1, c2, c3⟩ := name_bytes w
  have hw : w.heap.size < w1.heap.size := hs
  have hb := Lib.hid hb
  go_enter Tryz.func185, Tryz.ntmps185
  go_wp2_with fail
  refine wp_loop_rounds 5 ?_
  rw [rounds_succ]
  go_wp2_with fail
  rw [rounds_succ]
  go_wp2_with fail
  rw [rounds_succ]
  go_wp2_with fail
  rw [rounds_succ]
  go_wp2_with fail
  rw [rounds_succ]
  go_wp2
  (with_reducible show bodyPost _ _ _ _ _ _); refine bodyPost_ret (by simp [results, Tryz.results185, go_sem, *]; first | done | rfl) rfl ?_
  exact ⟨rfl, hb.out⟩
theorem mwithin_is (n lo hi : Int) (t : Bool) (w : World) (h : inR n lo hi = t) : Calls Tryz.prog 186 #[.int .i64 n, .int .i64 lo, .int .i64 hi] w fun e w' => e = .returned (.bool t) ∧ w' = w := by
  subst h
  by_cases h1 : lo ≤ n
  · by_cases h2 : n ≤ hi
    · rw [inR_yes.2 ⟨h1, h2⟩]
      go_enter Tryz.func186, Tryz.ntmps186
      repeat' (first | go_values | go_skip | go_guarded | go_step | go_upon | (simp only []; go_simp))
      go_ret
      exact ⟨rfl, rfl⟩
    · rw [inR_no.2 (fun h => h2 h.2)]
      go_enter Tryz.func186, Tryz.ntmps186
      repeat' (first | go_values | go_skip | go_guarded | go_step | go_upon | (simp only []; go_simp))
      go_ret
      exact ⟨rfl, rfl⟩
  · rw [inR_no.2 (fun h => h1 h.1)]
    go_enter Tryz.func186, Tryz.ntmps186
    repeat' (first | go_values | go_skip | go_guarded | go_step | go_upon | (simp only []; go_simp))
    go_ret
    exact ⟨rfl, rfl⟩
theorem msmall_yes (n : Int) (w : World) (h1 : -1048576 ≤ n) (h2 : n ≤ 1048576) : Calls Tryz.prog 217 #[.int .i64 n, .int .i64 1048576] w fun e w' => e = .returned (.bool true) ∧ w' = w := by
  have C := Lib.hid (fun w => mwithin_is n (-1048576) 1048576 true w (inR_yes.2 ⟨h1, h2⟩))
  clear h1 h2
  go_enter Tryz.func217, Tryz.ntmps217
  go_wp2_with fail
  refine (C.out _).mono ?_
  rintro e w' ⟨rfl, rfl⟩
  repeat' (first | go_values | go_skip | go_guarded | go_step | go_upon | (simp only []; go_simp))
  go_ret
  exact ⟨rfl, rfl⟩
theorem rangeErr_ok (a b : Int) (w : World) (h1 : -1048576 ≤ a) (h : a ≤ b) (h2 : b ≤ 1048576) : Calls Tryz.prog 187 #[.agg #[.int .i64 a, .int .i64 b], .int .i64 1048576] w fun e w' => e = .returned (.int .i64 0) ∧ Below w.heap.size w w' := by
  have CA := Lib.hid (fun w => msmall_yes a w h1 (by omega))
  have CB := Lib.hid (fun w => msmall_yes b w (by omega) h2)
  have hab : ¬ b < a := by omega
  clear h1 h2 h
  go_enter Tryz.func187, Tryz.ntmps187
  go_wp2_with fail
  refine (CA.out _).mono ?_
  rintro e w' ⟨rfl, rfl⟩
  go_wp2_with fail
  refine (CB.out _).mono ?_
  rintro e w' ⟨rfl, rfl⟩
  repeat' (first | go_values | go_skip | go_guarded | go_step | go_upon | (simp only []; go_simp))
  go_ret
  exact ⟨rfl, blw⟩
theorem placeErr_ok (wv ix si : Int) (w : World) (h : setQ wv ix si = 0) : Calls Tryz.prog 150 #[.string { data := #[110, 101, 120, 116] }, .int .i64 wv, .agg #[.int .i64 ix, .int .i64 si]] w fun e w' => e = .returned (.int .i64 0) ∧ Below w.heap.size w w' := by
  obtain ⟨h1, h2, h3⟩ := setQ_zero h
  have C1 := Lib.hid (fun w => mwithin_is wv 1000 200000 true w (inR_yes.2 h1))
  have C2 := Lib.hid (fun w => mwithin_is ix 5000 80000 true w (inR_yes.2 h2))
  have C3 := Lib.hid (fun w => mwithin_is si 0 9999 true w (inR_yes.2 h3))
  clear h h1 h2 h3
  go_enter Tryz.func150, Tryz.ntmps150
  go_wp2_with fail
  refine (isName_next _).mono ?_
  rintro e w1 ⟨rfl, hb_w1⟩
  have hs_w1 := hb_w1.size
  (try simp at hs_w1)
  obtain ⟨hz_w1_w, hy_w1_w, hx_w1_w, hc_w1_w, hf_w1_w⟩ := bl5 hb_w1 (w.heap.size)
  go_wp2_with fail
  refine (C1.out _).mono ?_
  rintro e w' ⟨rfl, rfl⟩
  go_wp2_with fail
  refine (C2.out _).mono ?_
  rintro e w' ⟨rfl, rfl⟩
  go_wp2_with fail
  refine (C3.out _).mono ?_
  rintro e w' ⟨rfl, rfl⟩
  repeat' (first | go_values | go_skip | go_guarded | go_step | go_upon | (simp only []; go_simp))
  go_ret
  exact ⟨rfl, blw⟩
set_option maxHeartbeats 4000000 in
theorem mfirst_ok (g cap : Nat) (a0 a1 b0 b1 c0 c1 : Int) (w : World) (ha : -1048576 ≤ a0 ∧ a0 ≤ a1 ∧ a1 ≤ 1048576) (hb : -1048576 ≤ b0 ∧ b0 ≤ b1 ∧ b1 ≤ 1048576) (hc : -1048576 ≤ c0 ∧ c0 ≤ c1 ∧ c1 ≤ 1048576)
    (s0 : w.cell? ⟨g, 0, none⟩ = some (.int .i64 a0)) (s1 : w.cell? ⟨g, 1, none⟩ = some (.int .i64 a1)) (s2 : w.cell? ⟨g, 2, none⟩ = some (.int .i64 b0)) (s3 : w.cell? ⟨g, 3, none⟩ = some (.int .i64 b1)) (s4 : w.cell? ⟨g, 4, none⟩ = some (.int .i64 c0)) (s5 : w.cell? ⟨g, 5, none⟩ = some (.int .i64 c1)) :
    Calls Tryz.prog 151 #[.int .i64 1048576, .slice (some ⟨g, 0, none⟩) 3 cap] w fun e w' => e = .returned (.int .i64 0) ∧ Below w.heap.size w w' := by
  have lg := World.block_lt_of_cell? _ _ s0
  simp only at lg
  have RA := Lib.hid (fun w => rangeErr_ok a0 a1 w ha.1 ha.2.1 ha.2.2)
  have RB := Lib.hid (fun w => rangeErr_ok b0 b1 w hb.1 hb.2.1 hb.2.2)
  have RC := Lib.hid (fun w => rangeErr_ok c0 c1 w hc.1 hc.2.1 hc.2.2)
  have n0 : ¬ g = w.heap.size := by omega
  clear ha hb hc
  go_enter Tryz.func151, Tryz.ntmps151
  go_wp2_with fail
  refine wp_loop_rounds 4 ?_
  rw [rounds_succ]
  go_wp2_with fail
  refine (RA.out _).mono ?_
  rintro e w1 ⟨rfl, hb1⟩
  have t2 := (hb1.cell (p := ⟨g, 2, none⟩) (by simp; omega)).trans (show _ = some (.int .i64 b0) from by go_simp)
  have t3 := (hb1.cell (p := ⟨g, 3, none⟩) (by simp; omega)).trans (show _ = some (.int .i64 b1) from by go_simp)
  have t4 := (hb1.cell (p := ⟨g, 4, none⟩) (by simp; omega)).trans (show _ = some (.int .i64 c0) from by go_simp)
  have t5 := (hb1.cell (p := ⟨g, 5, none⟩) (by simp; omega)).trans (show _ = some (.int .i64 c1) from by go_simp)
  have l1 := World.block_lt_of_cell? _ _ t2
  simp only at l1
  have n1 : ¬ g = w1.heap.size := by omega
  clear s0 s1 s2 s3 s4 s5 n0
  go_wp2_with fail
  rw [rounds_succ]
  go_wp2_with fail
  refine (RB.out _).mono ?_
  rintro e w2 ⟨rfl, hb2⟩
  have u4 := (hb2.cell (p := ⟨g, 4, none⟩) (by simp; omega)).trans (show _ = some (.int .i64 c0) from by go_simp)
  have u5 := (hb2.cell (p := ⟨g, 5, none⟩) (by simp; omega)).trans (show _ = some (.int .i64 c1) from by go_simp)
  have l2 := World.block_lt_of_cell? _ _ u4
  simp only at l2
  have n2 : ¬ g = w2.heap.size := by omega
  clear t2 t3 t4 t5 n1
  go_wp2_with fail
  rw [rounds_succ]
  go_wp2_with fail
  refine (RC.out _).mono ?_
  rintro e w3 ⟨rfl, hb3⟩
  clear u4 u5 n2
  go_wp2_with fail
  rw [rounds_succ]
  go_wp2
  (with_reducible show bodyPost _ _ _ _ _ _); refine bodyPost_ret (by simp [results, Tryz.results151, go_sem, *]; first | done | rfl) rfl ?_
  exact ⟨rfl, blw⟩
/-- A reading that has all that would be read. -/
def readV (wv ix si : Int) (S : Seen) : Value := .agg #[.string { data := #[110, 101, 120, 116] }, .int .i64 wv, .int .i64 ix, .int .i64 si, .int .i64 S.n0, .int .i64 S.n1, .int .i64 S.c0, .int .i64 S.c1, .int .i64 S.s0, .int .i64 S.s1]
set_option maxHeartbeats 4000000 in
theorem CheckReading_ok (wv ix si : Int) (S : Seen) (hs : setQ wv ix si = 0) (h : SeenOk S) (w : World) : Calls Tryz.prog 108 #[readV wv ix si S] w fun e w' => e = .returned (.int .i64 0) ∧ Below w.heap.size w w' := by
  have PE := Lib.hid (fun w => placeErr_ok wv ix si w hs)
  have FI := Lib.hid (fun g cap w s0 s1 s2 s3 s4 s5 => mfirst_ok g cap S.n0 S.n1 S.c0 S.c1 S.s0 S.s1 w h.n h.c h.s s0 s1 s2 s3 s4 s5)
  unfold readV
  clear hs h
  obtain ⟨n0, n1, c0, c1, s0, s1, q⟩ := S
  simp only at FI ⊢
  go_enter Tryz.func108, Tryz.ntmps108
  go_wp2_with fail
  refine (PE.out _).mono ?_
  rintro e w1 ⟨rfl, hb_w1⟩
  have hs_w1 := hb_w1.size
  (try simp at hs_w1)
  obtain ⟨hz_w1_w, hy_w1_w, hx_w1_w, hc_w1_w, hf_w1_w⟩ := bl5 hb_w1 (w.heap.size)
  go_wp2_with fail
  refine (FI.out _ _ _ (by go_simp) (by go_simp) (by go_simp) (by go_simp) (by go_simp) (by go_simp)).mono ?_
  rintro e w2 ⟨rfl, hb_w2⟩
  repeat' (first | go_values | go_skip | go_guarded | go_step | go_upon | (simp only []; go_simp))
  (with_reducible show bodyPost _ _ _ _ _ _); refine bodyPost_ret (by simp [results, Tryz.results108, go_sem, *]; first | done | rfl) rfl ?_
  exact ⟨rfl, blw⟩
theorem fsetting_any (wv ix si : Int) (S : Seen) (w : World) : Calls Tryz.prog 188 #[readV wv ix si S] w fun e w' => e = .returned (.agg #[.int .i64 wv, .int .i64 ix, .int .i64 si]) ∧ Below w.heap.size w w' := by
  unfold readV
  go_enter Tryz.func188, Tryz.ntmps188
  repeat' (first | go_values | go_skip | go_guarded | go_step | go_upon | (simp only []; go_simp))
  (with_reducible show bodyPost _ _ _ _ _ _); refine bodyPost_ret (by simp [results, Tryz.results188, go_sem, *]; first | done | rfl) rfl ?_
  exact ⟨rfl, blw⟩
theorem told_any (wv ix si : Int) (S : Seen) (w : World) : Calls Tryz.prog 189 #[readV wv ix si S] w fun e w' => e = .returned S.val ∧ Below w.heap.size w w' := by
  unfold readV Seen.val
  go_enter Tryz.func189, Tryz.ntmps189
  repeat' (first | go_values | go_skip | go_guarded | go_step | go_upon | (simp only []; go_simp))
  (with_reducible show bodyPost _ _ _ _ _ _); refine bodyPost_ret (by simp [results, Tryz.results189, go_sem, *]; first | done | rfl) rfl ?_
  exact ⟨rfl, blw⟩
end Go.Proofs.YtjbfaaolfonmaaaGreat

