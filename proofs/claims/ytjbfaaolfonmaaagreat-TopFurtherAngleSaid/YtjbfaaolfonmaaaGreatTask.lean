/- Tasks of one reading: what it says of boxes; the program's walks. -/
import Derived.Test.YtjbfaaolfonmaaaGreatReading
namespace Go.Proofs.YtjbfaaolfonmaaaGreat
open Go Go.Sort Go.RowKit

/-- A reading in a block of its own. -/
structure ReadAt (r : Nat) (wv ix si : Int) (S : Seen) (w : World) : Prop where
  c0 : w.cell? ⟨r, 0, none⟩ = some (.string { data := #[110, 101, 120, 116] })
  c1 : w.cell? ⟨r, 1, none⟩ = some (.int .i64 wv)
  c2 : w.cell? ⟨r, 2, none⟩ = some (.int .i64 ix)
  c3 : w.cell? ⟨r, 3, none⟩ = some (.int .i64 si)
  c4 : w.cell? ⟨r, 4, none⟩ = some (.int .i64 S.n0)
  c5 : w.cell? ⟨r, 5, none⟩ = some (.int .i64 S.n1)
  c6 : w.cell? ⟨r, 6, none⟩ = some (.int .i64 S.c0)
  c7 : w.cell? ⟨r, 7, none⟩ = some (.int .i64 S.c1)
  c8 : w.cell? ⟨r, 8, none⟩ = some (.int .i64 S.s0)
  c9 : w.cell? ⟨r, 9, none⟩ = some (.int .i64 S.s1)
@[go_sem high] theorem run_looked0 (a b : Value) (w : World) : (Instr.field 191 (.agg #[a, b]) 0).run Tryz.prog w = .ok a w := by kernel_rfl
theorem keepC {w w' : World} {p : Addr} {v : Value} (k : Below w.heap.size w w') (h : w.cell? p = some v) : w'.cell? p = some v := (k.cell (World.block_lt_of_cell? _ _ h)).trans h
theorem ReadAt.bel {r : Nat} {wv ix si : Int} {S : Seen} {w w' : World} (h : ReadAt r wv ix si S w) (k : Below w.heap.size w w') : ReadAt r wv ix si S w' :=
  ⟨keepC k h.c0, keepC k h.c1, keepC k h.c2, keepC k h.c3, keepC k h.c4, keepC k h.c5, keepC k h.c6, keepC k h.c7, keepC k h.c8, keepC k h.c9⟩
def taskV (pa : Option Addr) (n ca : Nat) (oi ol : Int) (r cr : Nat) : Value := .agg #[.slice pa n ca, .int .i64 oi, .int .i64 ol, .slice (some ⟨r, 0, none⟩) 1 cr]

set_option maxRecDepth 100000 in
set_option maxHeartbeats 8000000 in
theorem refutes_any (wv ix si oi ol : Int) (ls : List Box) (pa : Option Addr) (ca r cr : Nat) (S X : Seen) (hX : seenB wv ix si ls oi ol = X) (hx : X.q = 0) (hs : setQ wv ix si = 0) (hb : checkQ ls = 0) (ho : onQ oi ol = 0) (w : World) (hr : Row pa ls w) (hR : ReadAt r wv ix si S w) :
    Calls Tryz.prog 152 #[taskV pa ls.length ca oi ol r cr, .int .i64 0, .slice pa ls.length ca] w fun E w' => E = .returned (.tuple #[.bool (apartB X S), .bool (insideB X S)]) ∧ Below w.heap.size w w' := by
  have PR := fun w' (h : Below w.heap.size w w') => pred_any wv ix si oi ol ls pa ca hs hb ho w' (hr.bel h)
  rw [hX, hx] at PR
  have SE := Lib.hid (fun w => fsetting_any wv ix si S w)
  have TO := Lib.hid (fun w => told_any wv ix si S w)
  have AP := Lib.hid (fun w => apart_any X S w)
  have IN := Lib.hid (fun w => inside_any X S w)
  obtain ⟨r0, r1, r2, r3, r4, r5, r6, r7, r8, r9⟩ := hR
  unfold taskV
  clear hX hx hs hb ho hr
  generalize apartB X S = t at *
  generalize insideB X S = u at *
  generalize ls.length = n at *
  obtain ⟨x0, x1, x2, x3, x4, x5, _⟩ := X
  obtain ⟨n0, n1, c0, c1, s0, s1, _⟩ := S
  simp only [Seen.val, readV] at PR SE TO AP IN
  simp only at r4 r5 r6 r7 r8 r9
  have PR := Lib.hid PR
  have lr := World.block_lt_of_cell? _ _ r0
  simp only at lr
  have nr : ¬ r = w.heap.size := by omega
  have lr1 : r < w.heap.size + 1 := by omega
  go_enter Tryz.func152, Tryz.ntmps152
  go_wp2_with fail
  clear r0 r1 r2 r3 r4 r5 r6 r7 r8 r9
  refine calm_late 10 9 #[.int .i64 0, .int .i64 0, .int .i64 0, .int .i64 0, .int .i64 0, .int .i64 0] 146 _ _ _ rfl rfl rfl (by kernel_rfl) (by kernel_rfl) (by kernel_rfl) (fun _ _ _ _ h => h) (fun a w => by kernel_rfl) fun hG => ?_
  have hg_w := hG (w.heap.size) lto
  have hg_wp1 := hG (w.heap.size + 1) lto
  clear hG
  simp only [List.take_succ_cons, List.take_zero, List.drop_succ_cons, List.drop_zero]
  repeat (refine wpCalm_step (fun K hK => ?_); go_simp; first | (refine hK _ ?_; clear hK K) | (apply Exists.intro; refine ⟨fun _ => ?_, hK _ ?_⟩; (first | (go_at_call 188; with_reducible exact cal_call SE.out) | (go_at_call 77; exact PR.out _ (bl_call blw (below_regrown _ _ _)))); clear hK K))
  refine wpCalm_nil ?_
  intro B1 w2 hN
  obtain ⟨hb_w2, hlo_B1, hhi_B1, hc_B1, hf_B1⟩ := hN
  (try simp at hlo_B1)
  clear hg_w hg_wp1
  have hs_w2 := hb_w2.size
  (try simp at hs_w2)
  obtain ⟨hz_w2_w, hy_w2_w, hx_w2_w, hc_w2_w, hf_w2_w⟩ := bl5 hb_w2 (w.heap.size)
  obtain ⟨hz_w2_wp1, hy_w2_wp1, hx_w2_wp1, hc_w2_wp1, hf_w2_wp1⟩ := bl5 hb_w2 (w.heap.size + 1)
  have hn_B1_w : ¬ B1 = w.heap.size := by first | omega | (simp at hlo_B1; omega)
  have hm_B1_w : ¬ w.heap.size = B1 := by first | omega | (simp at hlo_B1; omega)
  have hn_B1_wp1 : ¬ B1 = w.heap.size + 1 := by first | omega | (simp at hlo_B1; omega)
  have hm_B1_wp1 : ¬ w.heap.size + 1 = B1 := by first | omega | (simp at hlo_B1; omega)
  go_wp2_with fail
  refine calm_all (by kernel_rfl) (by kernel_rfl) fun hG => ?_
  have hg_wp1 := hG (w.heap.size + 1) lto
  have hg_xB1 := hG (B1) lto
  clear hG
  repeat (go_big_quiet_step (first | (go_at_call 189; with_reducible exact calm_call TO.out) | (go_at_call 148; with_reducible exact calm_call AP.out) | (go_at_call 190; with_reducible exact calm_call IN.out)))
  refine wpQuiet_nil ?_
  intro w21 hb_w21
  clear hg_wp1 hg_xB1
  have hs_w21 := hb_w21.size
  (try simp at hs_w21)
  obtain ⟨hz_w21_wp1, hy_w21_wp1, hx_w21_wp1, hc_w21_wp1, hf_w21_wp1⟩ := bl5 hb_w21 (w.heap.size + 1)
  obtain ⟨hz_w21_xB1, hy_w21_xB1, hx_w21_xB1, hc_w21_xB1, hf_w21_xB1⟩ := bl5 hb_w21 (B1)
  repeat' (first | go_values | go_skip | go_guarded | go_step | go_upon | (simp only []; go_simp))
  go_ret2
  exact ⟨rfl, blw⟩

set_option maxRecDepth 100000 in
set_option maxHeartbeats 8000000 in
theorem look_any (wv ix si oi ol : Int) (ls : List Box) (pa : Option Addr) (ca r cr : Nat) (S X : Seen) (hX : seenB wv ix si ls oi ol = X) (hx : X.q = 0) (hs : setQ wv ix si = 0) (hb : checkQ ls = 0) (ho : onQ oi ol = 0) (t : Bool) (ht : apartB X S = t) (hu : insideB X S = !t) (w : World) (hr : Row pa ls w) (hR : ReadAt r wv ix si S w) :
    Calls Tryz.prog 110 #[taskV pa ls.length ca oi ol r cr, .slice pa ls.length ca] w fun E w' => E = .returned (.agg #[.int .i64 (if t = true then 0 else -1), .bool (!t)]) ∧ Below w.heap.size w w' := by
  have RF := fun w' (h : Below w.heap.size w w') => refutes_any wv ix si oi ol ls pa ca r cr S X hX hx hs hb ho w' (hr.bel h) (hR.bel h)
  rw [ht, hu] at RF
  unfold taskV at *
  clear hX hx hs hb ho hr hR ht hu
  generalize ls.length = n at *
  have RF := Lib.hid RF
  cases t
  case true =>
    rw [if_pos rfl]
    simp only [Bool.not_true] at RF ⊢
    go_enter Tryz.func110, Tryz.ntmps110
    go_wp2_with fail
    refine wp_loop_rounds 2 ?_
    rw [rounds_succ]
    go_wp2_with fail
    refine (RF.out _ blw).mono ?_
    rintro e w1 ⟨rfl, hb_w1⟩
    have hs_w1 := hb_w1.size
    (try simp at hs_w1)
    obtain ⟨hz_w1_wp1, hy_w1_wp1, hx_w1_wp1, hc_w1_wp1, hf_w1_wp1⟩ := bl5 hb_w1 (w.heap.size + 1)
    repeat' (first | go_values | go_skip | go_guarded | go_step | go_upon | (simp only []; go_simp))
    (with_reducible show bodyPost _ _ _ _ _ _); refine bodyPost_ret (by simp [results, Tryz.results110, go_sem, *]; first | done | rfl) rfl ?_
    exact ⟨rfl, blw⟩
  case false =>
    rw [if_neg (by simp)]
    simp only [Bool.not_false] at RF ⊢
    go_enter Tryz.func110, Tryz.ntmps110
    go_wp2_with fail
    refine wp_loop_rounds 2 ?_
    rw [rounds_succ]
    go_wp2_with fail
    refine (RF.out _ blw).mono ?_
    rintro e w1 ⟨rfl, hb_w1⟩
    have hs_w1 := hb_w1.size
    (try simp at hs_w1)
    obtain ⟨hz_w1_wp1, hy_w1_wp1, hx_w1_wp1, hc_w1_wp1, hf_w1_wp1⟩ := bl5 hb_w1 (w.heap.size + 1)
    obtain ⟨hz_w1_wp2, hy_w1_wp2, hx_w1_wp2, hc_w1_wp2, hf_w1_wp2⟩ := bl5 hb_w1 (w.heap.size + 1 + 1)
    go_wp2_with fail
    rw [rounds_succ]
    repeat' (first | go_values | go_skip | go_guarded | go_step | go_upon | (simp only []; go_simp))
    (with_reducible show bodyPost _ _ _ _ _ _); refine bodyPost_ret (by simp [results, Tryz.results110, go_sem, *]; first | done | rfl) rfl ?_
    exact ⟨rfl, blw⟩

set_option maxRecDepth 100000 in
set_option maxHeartbeats 8000000 in
theorem CheckTask_ok (wv ix si oi ol : Int) (ls : List Box) (pa : Option Addr) (ca r cr : Nat) (S : Seen) (hs : setQ wv ix si = 0) (hS : SeenOk S) (hb : checkQ ls = 0) (ho : onQ oi ol = 0) (w : World) (hr : Row pa ls w) (hR : ReadAt r wv ix si S w) :
    Calls Tryz.prog 48 #[taskV pa ls.length ca oi ol r cr] w fun E w' => E = .returned (.tuple #[.int .i64 0, .int .i64 0]) ∧ Below w.heap.size w w' := by
  have FC := fun w' (h : Below w.heap.size w w') => fcheck_any pa ls ca w' (hr.bel h)
  have OE := fun w => onErr_any oi ol w
  have CR := fun w => CheckReading_ok wv ix si S hs hS w
  rw [hb] at FC
  rw [ho] at OE
  have RA := Lib.hid (fun w' (h : Below w.heap.size w w') => hR.bel h)
  unfold taskV
  clear hs hb ho hr hS hR
  generalize checkI ls = i at *
  generalize ls.length = n at *
  simp only [readV] at CR
  have FC := Lib.hid FC
  have OE := Lib.hid OE
  have CR := Lib.hid CR
  go_enter Tryz.func48, Tryz.ntmps48
  go_wp2_with fail
  refine (FC.out _ blw).mono ?_
  rintro e w1 ⟨rfl, hb_w1⟩
  have hs_w1 := hb_w1.size
  (try simp at hs_w1)
  obtain ⟨hz_w1_w, hy_w1_w, hx_w1_w, hc_w1_w, hf_w1_w⟩ := bl5 hb_w1 (w.heap.size)
  go_wp2_with fail
  refine (OE.out _).mono ?_
  rintro e w2 ⟨rfl, hb_w2⟩
  have hs_w2 := hb_w2.size
  (try simp at hs_w2)
  obtain ⟨hz_w2_w, hy_w2_w, hx_w2_w, hc_w2_w, hf_w2_w⟩ := bl5 hb_w2 (w.heap.size)
  go_wp2_with fail
  obtain ⟨r0, r1, r2, r3, r4, r5, r6, r7, r8, r9⟩ := RA.out w2 blw
  have lr := World.block_lt_of_cell? _ _ r0
  simp only at lr
  have nr : ¬ r = w2.heap.size := by omega
  refine wp_loop_rounds 2 ?_
  rw [rounds_succ]
  go_wp2_with fail
  refine (CR.out _).mono ?_
  rintro e w21 ⟨rfl, hb_w21⟩
  have hs_w21 := hb_w21.size
  (try simp at hs_w21)
  go_wp2_with fail
  rw [rounds_succ]
  repeat' (first | go_values | go_skip | go_guarded | go_step | go_upon | (simp only []; go_simp))
  go_ret2
  exact ⟨rfl, blw⟩
set_option maxRecDepth 100000 in
set_option maxHeartbeats 4000000 in
theorem open_ok (wv ix si oi ol : Int) (ls : List Box) (pa : Option Addr) (ca r cr : Nat) (S : Seen) (hs : setQ wv ix si = 0) (hS : SeenOk S) (hb : checkQ ls = 0) (ho : onQ oi ol = 0) (w : World) (hr : Row pa ls w) (hR : ReadAt r wv ix si S w) :
    Calls Tryz.prog 109 #[taskV pa ls.length ca oi ol r cr] w fun E w' => E = .returned (.tuple #[taskV pa ls.length ca oi ol r cr, .int .i64 0]) ∧ Below w.heap.size w w' := by
  have CT := fun w' (h : Below w.heap.size w w') => CheckTask_ok wv ix si oi ol ls pa ca r cr S hs hS hb ho w' (hr.bel h) (hR.bel h)
  unfold taskV at *
  clear hs hb ho hr hS hR
  generalize ls.length = n at *
  have CT := Lib.hid CT
  go_enter Tryz.func109, Tryz.ntmps109
  go_wp2_with fail
  refine (CT.out _ blw).mono ?_
  rintro e w1 ⟨rfl, hb_w1⟩
  have hs_w1 := hb_w1.size
  (try simp at hs_w1)
  obtain ⟨hz_w1_w, hy_w1_w, hx_w1_w, hc_w1_w, hf_w1_w⟩ := bl5 hb_w1 (w.heap.size)
  obtain ⟨hz_w1_wp1, hy_w1_wp1, hx_w1_wp1, hc_w1_wp1, hf_w1_wp1⟩ := bl5 hb_w1 (w.heap.size + 1)
  repeat' (first | go_values | go_skip | go_guarded | go_step | go_upon | (simp only []; go_simp))
  (with_reducible show bodyPost _ _ _ _ _ _); refine bodyPost_ret (by simp [results, Tryz.results109, go_sem, *]; first | done | rfl) rfl ?_
  exact ⟨rfl, blw⟩
set_option maxRecDepth 100000 in
set_option maxHeartbeats 4000000 in
theorem Explains_yes (wv ix si oi ol : Int) (ls : List Box) (pa : Option Addr) (ca r cr : Nat) (S : Seen) (hX : seenB wv ix si ls oi ol = S) (hx : S.q = 0) (hs : setQ wv ix si = 0) (hb : checkQ ls = 0) (ho : onQ oi ol = 0) (w : World) (hr : Row pa ls w) (hR : ReadAt r wv ix si S w) :
    Calls Tryz.prog 51 #[taskV pa ls.length ca oi ol r cr] w fun E w' => E = .returned (.tuple #[.int .i64 2, .int .i64 0]) ∧ Below w.heap.size w w' := by
  have hS : SeenOk S := by rw [← hX]; exact seenB_ok _ _ _ _ _ _
  have OP := fun w' (h : Below w.heap.size w w') => open_ok wv ix si oi ol ls pa ca r cr S hs hS hb ho w' (hr.bel h) (hR.bel h)
  have LK := fun w' (h : Below w.heap.size w w') => look_any wv ix si oi ol ls pa ca r cr S S hX hx hs hb ho false (apart_self hS) (by rw [inside_self]; rfl) w' (hr.bel h) (hR.bel h)
  rw [if_neg (by simp), Bool.not_false] at LK
  unfold taskV at *
  clear hs hb ho hr hS hR hX hx
  generalize ls.length = n at *
  have OP := Lib.hid OP
  have LK := Lib.hid LK
  go_enter Tryz.func51, Tryz.ntmps51
  go_wp2_with fail
  refine (OP.out _ blw).mono ?_
  rintro e w1 ⟨rfl, hb_w1⟩
  have hs_w1 := hb_w1.size
  (try simp at hs_w1)
  obtain ⟨hz_w1_w, hy_w1_w, hx_w1_w, hc_w1_w, hf_w1_w⟩ := bl5 hb_w1 (w.heap.size)
  go_wp2_with fail
  refine (LK.out _ blw).mono ?_
  rintro e w2 ⟨rfl, hb_w2⟩
  have hs_w2 := hb_w2.size
  (try simp at hs_w2)
  repeat' (first | go_values | go_skip | go_guarded | go_step | go_upon | (simp only []; go_simp))
  go_ret2
  exact ⟨rfl, blw⟩
set_option maxRecDepth 100000 in
set_option maxHeartbeats 4000000 in
theorem Refuting_zero (wv ix si oi ol : Int) (ls : List Box) (pa : Option Addr) (ca r cr : Nat) (S X : Seen) (hX : seenB wv ix si ls oi ol = X) (hx : X.q = 0) (hS : SeenOk S) (ht : apartB X S = true) (hu : insideB X S = false) (hs : setQ wv ix si = 0) (hb : checkQ ls = 0) (ho : onQ oi ol = 0) (w : World) (hr : Row pa ls w) (hR : ReadAt r wv ix si S w) :
    Calls Tryz.prog 50 #[taskV pa ls.length ca oi ol r cr] w fun E w' => E = .returned (.tuple #[.int .i64 0, .int .i64 0]) ∧ Below w.heap.size w w' := by
  have OP := fun w' (h : Below w.heap.size w w') => open_ok wv ix si oi ol ls pa ca r cr S hs hS hb ho w' (hr.bel h) (hR.bel h)
  have LK := fun w' (h : Below w.heap.size w w') => look_any wv ix si oi ol ls pa ca r cr S X hX hx hs hb ho true ht (by rw [hu]; rfl) w' (hr.bel h) (hR.bel h)
  rw [if_pos rfl, Bool.not_true] at LK
  unfold taskV at *
  clear hs hb ho hr hS hR hX hx ht hu
  generalize ls.length = n at *
  have OP := Lib.hid OP
  have LK := Lib.hid LK
  go_enter Tryz.func50, Tryz.ntmps50
  go_wp2_with fail
  refine (OP.out _ blw).mono ?_
  rintro e w1 ⟨rfl, hb_w1⟩
  have hs_w1 := hb_w1.size
  (try simp at hs_w1)
  obtain ⟨hz_w1_w, hy_w1_w, hx_w1_w, hc_w1_w, hf_w1_w⟩ := bl5 hb_w1 (w.heap.size)
  go_wp2_with fail
  refine (LK.out _ blw).mono ?_
  rintro e w2 ⟨rfl, hb_w2⟩
  have hs_w2 := hb_w2.size
  (try simp at hs_w2)
  repeat' (first | go_values | go_skip | go_guarded | go_step | go_upon | (simp only []; go_simp))
  go_ret2
  exact ⟨rfl, blw⟩
end Go.Proofs.YtjbfaaolfonmaaaGreat

