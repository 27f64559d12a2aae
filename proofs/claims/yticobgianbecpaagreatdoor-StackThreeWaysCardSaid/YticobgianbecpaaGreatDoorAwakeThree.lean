/- The examples of chapter 3 are as told: the walk of the statements' own function. -/
import Derived.Test.YticobgianbecpaaGreatDoorKPart
import Derived.Test.YticobgianbecpaaGreatDoorSlabAny
import Derived.Test.YticobgianbecpaaGreatDoorKShare
import Derived.Test.YticobgianbecpaaGreatDoorKEnd
import Derived.Test.YticobgianbecpaaGreatDoorKStk
namespace Go.Proofs.YticobgianbecpaaGreatDoor
open Go Go.Sort Go.RowKit

theorem even_any (w : World) : Calls Tryz.prog 32 #[] w fun e w' => e = .returned (.agg #[.int .i64 262144, .int .i64 262144, .int .i64 786432, .int .i64 786432, .int .i64 0, .int .i64 0]) ∧ Below w.heap.size w w' := by
  go_enter Tryz.func32, Tryz.ntmps32
  repeat' (first | go_values | go_skip | go_guarded | go_step | go_upon | (simp only []; go_simp))
  refine bodyPost_ret (by simp [results, Tryz.results32, go_sem, *]; first | done | rfl) rfl ?_
  exact ⟨rfl, blw⟩
def evenS : Slb := ⟨262144, 262144, 786432, 786432, 262144, 262144, 786432, 786432, 262144, 262144, 786432, 786432, 1048576, 1048576⟩
theorem evenS_ok : SlbOk evenS := ⟨⟨by decide, by decide⟩, ⟨by decide, by decide⟩, ⟨by decide, by decide⟩, ⟨by decide, by decide⟩, ⟨by decide, by decide⟩, ⟨by decide, by decide⟩, by decide, ⟨by decide, by decide⟩, ⟨by decide, by decide⟩, ⟨by decide, by decide⟩, ⟨by decide, by decide⟩, by decide, ⟨by decide, by decide⟩, ⟨by decide, by decide⟩, ⟨by decide, by decide⟩, ⟨by decide, by decide⟩, by decide⟩
theorem even_lo : slLo1 evenS < 1048576 := by decide +kernel
theorem even_shares : (slabR evenS).r0 = 419430 ∧ (slabR evenS).r1 = 419431 ∧ (slabR evenS).t0 = 629145 ∧ (slabR evenS).t1 = 629146 ∧ (slabR evenS).a0 = 0 ∧ (slabR evenS).a1 = 1 := by decide +kernel
theorem slab_even (w : World) : Calls Tryz.prog 15 #[.agg #[.int .i64 262144, .int .i64 262144, .int .i64 786432, .int .i64 786432, .int .i64 0, .int .i64 0, .int .i64 262144, .int .i64 262144, .int .i64 786432, .int .i64 786432, .int .i64 0, .int .i64 0, .int .i64 262144, .int .i64 262144, .int .i64 786432, .int .i64 786432, .int .i64 0, .int .i64 0, .int .i64 1048576, .int .i64 1048576]] w fun e w' => e = .returned (.tuple #[.agg #[.int .i64 419430, .int .i64 419431, .int .i64 629145, .int .i64 629146, .int .i64 0, .int .i64 1], .int .i64 0]) ∧ Below w.heap.size w w' := by
  have k := slab_good evenS evenS_ok 0 0 0 0 0 0 even_lo checkSlab_even w
  unfold Shr.val at k
  obtain ⟨e1, e2, e3, e4, e5, e6⟩ := even_shares
  rw [e1, e2, e3, e4, e5, e6] at k
  exact k
theorem quarter_lohi : shS (stopR 0 (quarter none) ⟨40000, 40000, 0, 0, 0⟩) (shT0 (ampR (quarter none) true) (admR 0 (quarter none) ⟨10000, 10000, 0, 0, 0⟩) (admR 0 (quarter none) ⟨40000, 40000, 0, 0, 0⟩)) = 1048576 ∧
    shS (stopR 0 (quarter none) ⟨40000, 40000, 0, 0, 0⟩) (shT1 (ampR (quarter none) true) (admR 0 (quarter none) ⟨10000, 10000, 0, 0, 0⟩) (admR 0 (quarter none) ⟨40000, 40000, 0, 0, 0⟩)) = 1048576 := by decide +kernel
theorem quarter_both (p : Option Addr) (w : World) (hr : Row p quarterLs w) (hpa : ∀ a, p = some a → a.block < w.heap.size) :
    ∃ r0 r1 a0 a1, Calls Tryz.prog 10 #[(quarter p).val] w fun e w' => e = .returned (.tuple #[.agg #[.int .i64 r0, .int .i64 r1, .int .i64 1048576, .int .i64 1048576, .int .i64 a0, .int .i64 a1], .int .i64 0]) ∧ Below w.heap.size w w' := by
  have k := SharesOf_ok (quarter p) (quarter_ok p) (by rw [quarter_amp]; exact quarter_refl) (by rw [quarter_amp]; exact quarter_value.1) (by rw [quarter_adm]; exact quarter_front) w hr hpa
  have e := quarter_lohi
  rw [← quarter_amp p, ← quarter_adm p, ← quarter_adm p, ← quarter_stop p] at e
  unfold shrOf Shr.val at k
  dsimp only at k
  have e1 : shS (stopR 0 (quarter p) ⟨(quarter p).oi, (quarter p).oi, 0, 0, (quarter p).ol⟩) (shT0 (ampR (quarter p) true) (admR 0 (quarter p) ⟨(quarter p).ix, (quarter p).ix, 0, 0, 0⟩) (admR 0 (quarter p) ⟨(quarter p).oi, (quarter p).oi, 0, 0, (quarter p).ol⟩)) = 1048576 := e.1
  have e2 : shS (stopR 0 (quarter p) ⟨(quarter p).oi, (quarter p).oi, 0, 0, (quarter p).ol⟩) (shT1 (ampR (quarter p) true) (admR 0 (quarter p) ⟨(quarter p).ix, (quarter p).ix, 0, 0, 0⟩) (admR 0 (quarter p) ⟨(quarter p).oi, (quarter p).oi, 0, 0, (quarter p).ol⟩)) = 1048576 := e.2
  rw [e1, e2] at k
  exact ⟨_, _, _, _, k⟩

set_option maxRecDepth 100000 in
set_option maxHeartbeats 8000000 in
theorem awake3_walk (w : World) (hS : Std w) : Calls Tryz.prog 8 #[] w fun e w' => e = .returned (.bool true) ∧ Below w.heap.size w w' := by
  have QA := Lib.hid (fun w => Quarter_any w)
  have TR := fun g (w : World) hr hpa => Transmitted_any (quarter (some ⟨g, 0, none⟩)) (quarter_ok _) w hr hpa
  have SH := Lib.hid (fun g (w : World) hr hpa => quarter_both (some ⟨g, 0, none⟩) w hr hpa)
  have PT := Lib.hid (fun w h => parse_text w h)
  have EV := Lib.hid (fun w => even_any w)
  have SL := Lib.hid (fun w => slab_even w)
  have HS := Lib.hid hS
  obtain ⟨q0, q1, q2, q3⟩ := quarter_value
  simp only [quarter_amp, out_quad] at TR
  rw [q0, q1, q2, q3] at TR
  have TR := Lib.hid TR
  clear q0 q1 q2 q3 hS
  unfold Ask.val quarter at QA TR SH
  dsimp only at QA TR SH
  unfold text at PT
  go_enter Tryz.func8, Tryz.ntmps8
  go_wp2_with fail
  refine (QA.out _).mono ?_
  rintro e w1 ⟨g1, rfl, hr1, hl1, hh1, hb_w1⟩
  go_wp2_with fail
  refine (TR.out g1 _ hr1 (fun a h => by cases h; exact hh1)).mono ?_
  rintro e w2 ⟨rfl, hb_w2⟩
  clear hr1
  go_wp2_with fail
  refine (QA.out _).mono ?_
  rintro e w3 ⟨g3, rfl, hr3, hl3, hh3, hb_w3⟩
  have hs_w3 := hb_w3.size
  (try simp at hs_w3)
  obtain ⟨hz_w3_w2, hy_w3_w2, hx_w3_w2, hc_w3_w2, hf_w3_w2⟩ := bl5 hb_w3 (w2.heap.size)
  go_wp2_with fail
  obtain ⟨r0, r1, a0, a1, SH'⟩ := SH.out g3 _ hr3 (fun a h => by cases h; exact hh3)
  refine SH'.mono ?_
  clear SH'
  rintro e w4 ⟨rfl, hb_w4⟩
  clear hr3
  have hs_w4 := hb_w4.size
  (try simp at hs_w4)
  obtain ⟨hz_w4_w2, hy_w4_w2, hx_w4_w2, hc_w4_w2, hf_w4_w2⟩ := bl5 hb_w4 (w2.heap.size)
  go_wp2_with fail
  refine (PT.out _ (HS.out.below blw)).mono ?_
  rintro e w5 ⟨g5, k5, rfl, hl5, hh5, hc5, hb_w5⟩
  have hs_w5 := hb_w5.size
  (try simp at hs_w5)
  obtain ⟨hz_w5_w2, hy_w5_w2, hx_w5_w2, hc_w5_w2, hf_w5_w2⟩ := bl5 hb_w5 (w2.heap.size)
  obtain ⟨hz_w5_w4, hy_w5_w4, hx_w5_w4, hc_w5_w4, hf_w5_w4⟩ := bl5 hb_w5 (w4.heap.size)
  go_wp2_with fail
  refine (EV.out _).mono ?_
  rintro e w6 ⟨rfl, hb_w6⟩
  have hc6 := keepC hb_w6 hc5
  have hs_w6 := hb_w6.size
  (try simp at hs_w6)
  obtain ⟨hz_w6_w2, hy_w6_w2, hx_w6_w2, hc_w6_w2, hf_w6_w2⟩ := bl5 hb_w6 (w2.heap.size)
  obtain ⟨hz_w6_w4, hy_w6_w4, hx_w6_w4, hc_w6_w4, hf_w6_w4⟩ := bl5 hb_w6 (w4.heap.size)
  go_wp2_with fail
  refine (EV.out _).mono ?_
  rintro e w7 ⟨rfl, hb_w7⟩
  have hc7 := keepC hb_w7 hc6
  have hs_w7 := hb_w7.size
  (try simp at hs_w7)
  obtain ⟨hz_w7_w2, hy_w7_w2, hx_w7_w2, hc_w7_w2, hf_w7_w2⟩ := bl5 hb_w7 (w2.heap.size)
  obtain ⟨hz_w7_w4, hy_w7_w4, hx_w7_w4, hc_w7_w4, hf_w7_w4⟩ := bl5 hb_w7 (w4.heap.size)
  go_wp2_with fail
  refine (EV.out _).mono ?_
  rintro e w8 ⟨rfl, hb_w8⟩
  have hc8 := keepC hb_w8 hc7
  have hs_w8 := hb_w8.size
  (try simp at hs_w8)
  obtain ⟨hz_w8_w2, hy_w8_w2, hx_w8_w2, hc_w8_w2, hf_w8_w2⟩ := bl5 hb_w8 (w2.heap.size)
  obtain ⟨hz_w8_w4, hy_w8_w4, hx_w8_w4, hc_w8_w4, hf_w8_w4⟩ := bl5 hb_w8 (w4.heap.size)
  go_wp2_with fail
  refine (SL.out _).mono ?_
  rintro e w9 ⟨rfl, hb_w9⟩
  have hc9 := keepC hb_w9 hc8
  have hs_w9 := hb_w9.size
  (try simp at hs_w9)
  obtain ⟨hz_w9_w2, hy_w9_w2, hx_w9_w2, hc_w9_w2, hf_w9_w2⟩ := bl5 hb_w9 (w2.heap.size)
  obtain ⟨hz_w9_w4, hy_w9_w4, hx_w9_w4, hc_w9_w4, hf_w9_w4⟩ := bl5 hb_w9 (w4.heap.size)
  clear hc5 hc6 hc7 hc8
  have hg9 : g5 < w9.heap.size := World.block_lt_of_cell? _ _ hc9
  have hn9 : ¬ g5 = w9.heap.size := by omega
  go_wp2_with fail
  refine calm_all (by kernel_rfl) (by kernel_rfl) fun hG => ?_
  have hg_w2 := hG (w2.heap.size) lto
  have hg_w4 := hG (w4.heap.size) lto
  have hg_w9 := hG (w9.heap.size) lto
  have hg_xg5 := hG (g5) lto
  clear hG
  repeat (go_big_quiet_step (first | (go_at_call 34; with_reducible exact calm_call (fun w => bBall_any _ _ _ w)) | (go_at_call 33; with_reducible exact calm_call (fun w => SameBall_same _ _ _ w))))
  refine wpQuiet_nil ?_
  intro w10 hb_w10
  clear hg_w2 hg_w4 hg_w9 hg_xg5
  have hs_w10 := hb_w10.size
  (try simp at hs_w10)
  obtain ⟨hz_w10_w2, hy_w10_w2, hx_w10_w2, hc_w10_w2, hf_w10_w2⟩ := bl5 hb_w10 (w2.heap.size)
  obtain ⟨hz_w10_w4, hy_w10_w4, hx_w10_w4, hc_w10_w4, hf_w10_w4⟩ := bl5 hb_w10 (w4.heap.size)
  obtain ⟨hz_w10_w9, hy_w10_w9, hx_w10_w9, hc_w10_w9, hf_w10_w9⟩ := bl5 hb_w10 (w9.heap.size)
  obtain ⟨hz_w10_xg5, hy_w10_xg5, hx_w10_xg5, hc_w10_xg5, hf_w10_xg5⟩ := bl5 hb_w10 (g5)
  go_wp2
  go_ret
  exact ⟨rfl, blw⟩
theorem awake3_any : Awake3 := fun w h => awake3_walk w h
end Go.Proofs.YticobgianbecpaaGreatDoor
