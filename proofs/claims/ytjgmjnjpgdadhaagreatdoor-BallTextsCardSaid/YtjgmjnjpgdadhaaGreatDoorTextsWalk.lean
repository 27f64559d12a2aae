/- BallTexts: the walks of the law. -/
import Derived.Test.YtjgmjnjpgdadhaaGreatDoorRParseWalk
import Derived.Test.YtjgmjnjpgdadhaaGreatDoorFormatWalk
namespace Go.Proofs.YtjgmjnjpgdadhaaGreatDoor
open Go.RowKit Go

/-- The four numbers of a result. -/
@[irreducible] def Res.a : Res → Int
  | .bad _ => 0
  | .good a _ _ => a
@[irreducible] def Res.b : Res → Int
  | .bad _ => 0
  | .good _ b _ => b
@[irreducible] def Res.c : Res → Int
  | .bad _ => 0
  | .good _ _ c => c
@[irreducible] def Res.q : Res → Int
  | .bad q => q
  | .good _ _ _ => 0
theorem quad_bad (q : Int) : (Res.bad q).a = 0 ∧ (Res.bad q).b = 0 ∧ (Res.bad q).c = 0 ∧ (Res.bad q).q = q := by unfold Res.a Res.b Res.c Res.q; exact ⟨rfl, rfl, rfl, rfl⟩
theorem quad_good (a b c : Int) : (Res.good a b c).a = a ∧ (Res.good a b c).b = b ∧ (Res.good a b c).c = c ∧ (Res.good a b c).q = 0 := by unfold Res.a Res.b Res.c Res.q; exact ⟨rfl, rfl, rfl, rfl⟩

theorem out_quad (r : Res) : out r = .tuple #[.agg #[.complex .f64 (fl r.a) (fl r.b), .int .i64 r.c], .int .i64 r.q] := by
  cases r with
  | bad q => obtain ⟨h1, h2, h3, h4⟩ := quad_bad q; rw [h1, h2, h3, h4, fl_zero]; rfl
  | good a b c => obtain ⟨h1, h2, h3, h4⟩ := quad_good a b c; rw [h1, h2, h3, h4]; rfl
theorem outR_quad (r : Res) : outR r = .tuple #[.agg #[.int .i64 r.a, .int .i64 r.b, .int .i64 r.c], .int .i64 r.q] := by
  cases r with
  | bad q => obtain ⟨h1, h2, h3, h4⟩ := quad_bad q; rw [h1, h2, h3, h4]; rfl
  | good a b c => obtain ⟨h1, h2, h3, h4⟩ := quad_good a b c; rw [h1, h2, h3, h4]; rfl

theorem parse_fmt {x y r : Int} (h : Right x y r) : parseM (fmtL x y r) = .good x y r := by
  rw [parseM_three (cut_fmt x y r)]
  obtain ⟨⟨h1, h2, h3, h4⟩, h5, h6⟩ := h
  rw [num_of_itoa x 9 (by have := (itoa_len (x := x) (by omega) (by omega)).2; omega), num_of_itoa y 9 (by have := (itoa_len (x := y) (by omega) (by omega)).2; omega), num_of_itoa r 9 (by have := (itoa_len (x := r) (by omega) (by omega)).2; omega)]
  exact parse3_yes ⟨⟨h1, h2, h3, h4⟩, h5, h6⟩
theorem parse_empty : parseM [] = .bad 4 := parseM_short (by simp [cutL])

theorem Parse_q (s : ByteArray) (w : World) (hS : Std w) (hs : s.size ≤ 1000000) (P : Res) (hP : parseM s.data.toList = P) :
    Calls Tryz.prog 18 #[.string s] w fun e w' => e = .returned (.tuple #[.agg #[.complex .f64 (fl P.a) (fl P.b), .int .i64 P.c], .int .i64 P.q]) ∧ Below w.heap.size w w' := by
  have t := Parse_any s w hS hs
  rw [hP, out_quad] at t
  exact t
theorem rParse_q (s : ByteArray) (w : World) (hs : s.size ≤ 1000000) (P : Res) (hP : parseM s.data.toList = P) :
    Calls Tryz.prog 19 #[.string s] w fun e w' => e = .returned (.tuple #[.agg #[.int .i64 P.a, .int .i64 P.b, .int .i64 P.c], .int .i64 P.q]) ∧ Below w.heap.size w w' := by
  have t := rParse_any s w hs
  rw [hP, outR_quad] at t
  exact t

set_option maxRecDepth 100000 in
set_option maxHeartbeats 2000000 in
theorem texts_long (x y r : Int) (s : ByteArray) (w : World) (hl : 100 < (s.size : Int)) :
    Calls Tryz.prog 4 #[.agg #[.int .i64 x, .int .i64 y, .int .i64 r], .string s] w fun e w' => e = .returned (.bool true) ∧ Below w.heap.size w w' := by
  go_enter Tryz.func4, Tryz.ntmps4
  go_wp2_with fail
  refine (awake_any _).mono ?_
  rintro e w1 ⟨rfl, hb_w1⟩
  have hs_w1 := hb_w1.size
  (try simp at hs_w1)
  go_wp2
  go_ret
  exact ⟨rfl, (by repeat' (first | (with_reducible exact Below.refl _ _) | (with_reducible assumption) | (with_reducible refine bl_alloc ?_ _) | (with_reducible refine bl_drew ?_) | (with_reducible refine bl_drewN ?_) | (with_reducible refine bl_setCell ?_ ?_ _) | (with_reducible refine bl_call ?_ (by with_reducible assumption)) | omega | (simp; done) | (simp; omega)))⟩

set_option maxRecDepth 100000 in
set_option maxHeartbeats 4000000 in
theorem texts_right (x y r : Int) (s : ByteArray) (w : World) (hS : Std w) (hs : (s.size : Int) ≤ 100) (h : Right (cutI x) (cutI y) r) :
    Calls Tryz.prog 4 #[.agg #[.int .i64 x, .int .i64 y, .int .i64 r], .string s] w fun e w' => e = .returned (.bool true) ∧ Below w.heap.size w w' := by
  obtain ⟨P, hP⟩ : ∃ P, parseM s.data.toList = P := ⟨_, rfl⟩
  have tP := fun w hS => Parse_q s w hS (by omega) P hP
  have tR := fun w => rParse_q s w (by omega) P hP
  have tI := fun w => is_same P.a P.b P.c P.q w
  have tW := fun w => wBall_any x y r w
  have tF := fun w hS => Format_yes (cutI x) (cutI y) r w hS h
  have tB := fun w hS => Parse_q (fmtB (cutI x) (cutI y) r) w hS (by have := fmt_len h; rw [← fmtB_list, list_of] at this; omega) (.good (cutI x) (cutI y) r) (by rw [fmtB_list]; exact parse_fmt h)
  obtain ⟨q1, q2, q3, q4⟩ := quad_good (cutI x) (cutI y) r
  simp only [q1, q2, q3, q4] at tB
  have tE := fun w => err_any x y r w
  rw [show errW x y r = 0 from by unfold errW chk; exact if_pos h] at tE
  have tS := fun w => SameBall_same (fl (cutI x)) (fl (cutI y)) r w
  clear h q1 q2 q3 q4 hP
  generalize fmtB (cutI x) (cutI y) r = B at *
  generalize cutI x = X at *
  generalize cutI y = Y at *
  have TP := Lib.hid tP
  have TR := Lib.hid tR
  have TI := Lib.hid tI
  have TW := Lib.hid tW
  have TF := Lib.hid tF
  have TB := Lib.hid tB
  have TE := Lib.hid tE
  have TS := Lib.hid tS
  clear tP tR tI tW tF tB tE tS
  go_enter Tryz.func4, Tryz.ntmps4
  go_wp2_with fail
  refine (awake_any _).mono ?_
  rintro e w1 ⟨rfl, hb_w1⟩
  have hs_w1 := hb_w1.size
  (try simp at hs_w1)
  have hz_w1_w : w.heap.size < w1.heap.size := (by have hs := hb_w1.size; (try simp at hs); omega)
  have hy_w1_w : w.heap.size < w1.heap.size + 1 := (by omega)
  have hx_w1_w : w.heap.size < w1.heap.size + 1 + 1 := (by omega)
  have hc_w1_w := fun o => hb_w1.cell (p := ⟨w.heap.size, o, none⟩) (by first | omega | (simp; done) | (simp; omega))
  have hf_w1_w := fun o => hb_w1.frozen (p := ⟨w.heap.size, o, none⟩) (by first | omega | (simp; done) | (simp; omega))
  go_wp2_with fail
  refine (TP.out _ (hS.below (by repeat' (first | (with_reducible exact Below.refl _ _) | (with_reducible assumption) | (with_reducible refine bl_alloc ?_ _) | (with_reducible refine bl_drew ?_) | (with_reducible refine bl_drewN ?_) | (with_reducible refine bl_setCell ?_ ?_ _) | (with_reducible refine bl_call ?_ (by with_reducible assumption)) | omega | (simp; done) | (simp; omega))))).mono ?_
  rintro e w2 ⟨rfl, hb_w2⟩
  have hs_w2 := hb_w2.size
  (try simp at hs_w2)
  have hz_w2_w : w.heap.size < w2.heap.size := (by have hs := hb_w2.size; (try simp at hs); omega)
  have hy_w2_w : w.heap.size < w2.heap.size + 1 := (by omega)
  have hx_w2_w : w.heap.size < w2.heap.size + 1 + 1 := (by omega)
  have hc_w2_w := fun o => hb_w2.cell (p := ⟨w.heap.size, o, none⟩) (by first | omega | (simp; done) | (simp; omega))
  have hf_w2_w := fun o => hb_w2.frozen (p := ⟨w.heap.size, o, none⟩) (by first | omega | (simp; done) | (simp; omega))
  go_wp2_with fail
  refine (TR.out _).mono ?_
  rintro e w3 ⟨rfl, hb_w3⟩
  have hs_w3 := hb_w3.size
  (try simp at hs_w3)
  have hz_w3_w : w.heap.size < w3.heap.size := (by have hs := hb_w3.size; (try simp at hs); omega)
  have hy_w3_w : w.heap.size < w3.heap.size + 1 := (by omega)
  have hx_w3_w : w.heap.size < w3.heap.size + 1 + 1 := (by omega)
  have hc_w3_w := fun o => hb_w3.cell (p := ⟨w.heap.size, o, none⟩) (by first | omega | (simp; done) | (simp; omega))
  have hf_w3_w := fun o => hb_w3.frozen (p := ⟨w.heap.size, o, none⟩) (by first | omega | (simp; done) | (simp; omega))
  have hz_w3_w2 : w2.heap.size < w3.heap.size := (by have hs := hb_w3.size; (try simp at hs); omega)
  have hy_w3_w2 : w2.heap.size < w3.heap.size + 1 := (by omega)
  have hx_w3_w2 : w2.heap.size < w3.heap.size + 1 + 1 := (by omega)
  have hc_w3_w2 := fun o => hb_w3.cell (p := ⟨w2.heap.size, o, none⟩) (by first | omega | (simp; done) | (simp; omega))
  have hf_w3_w2 := fun o => hb_w3.frozen (p := ⟨w2.heap.size, o, none⟩) (by first | omega | (simp; done) | (simp; omega))
  go_wp2_with fail
  refine (TI.out _).mono ?_
  rintro e w4 ⟨rfl, hb_w4⟩
  have hs_w4 := hb_w4.size
  (try simp at hs_w4)
  have hz_w4_w : w.heap.size < w4.heap.size := (by have hs := hb_w4.size; (try simp at hs); omega)
  have hy_w4_w : w.heap.size < w4.heap.size + 1 := (by omega)
  have hx_w4_w : w.heap.size < w4.heap.size + 1 + 1 := (by omega)
  have hc_w4_w := fun o => hb_w4.cell (p := ⟨w.heap.size, o, none⟩) (by first | omega | (simp; done) | (simp; omega))
  have hf_w4_w := fun o => hb_w4.frozen (p := ⟨w.heap.size, o, none⟩) (by first | omega | (simp; done) | (simp; omega))
  go_wp2_with fail
  refine (TW.out _).mono ?_
  rintro e w5 ⟨rfl, hb_w5⟩
  have hs_w5 := hb_w5.size
  (try simp at hs_w5)
  have hz_w5_w : w.heap.size < w5.heap.size := (by have hs := hb_w5.size; (try simp at hs); omega)
  have hy_w5_w : w.heap.size < w5.heap.size + 1 := (by omega)
  have hx_w5_w : w.heap.size < w5.heap.size + 1 + 1 := (by omega)
  have hc_w5_w := fun o => hb_w5.cell (p := ⟨w.heap.size, o, none⟩) (by first | omega | (simp; done) | (simp; omega))
  have hf_w5_w := fun o => hb_w5.frozen (p := ⟨w.heap.size, o, none⟩) (by first | omega | (simp; done) | (simp; omega))
  go_wp2_with fail
  refine (TF.out _ (hS.below (by repeat' (first | (with_reducible exact Below.refl _ _) | (with_reducible assumption) | (with_reducible refine bl_alloc ?_ _) | (with_reducible refine bl_drew ?_) | (with_reducible refine bl_drewN ?_) | (with_reducible refine bl_setCell ?_ ?_ _) | (with_reducible refine bl_call ?_ (by with_reducible assumption)) | omega | (simp; done) | (simp; omega))))).mono ?_
  rintro e w6 ⟨rfl, hb_w6⟩
  have hs_w6 := hb_w6.size
  (try simp at hs_w6)
  have hz_w6_w : w.heap.size < w6.heap.size := (by have hs := hb_w6.size; (try simp at hs); omega)
  have hy_w6_w : w.heap.size < w6.heap.size + 1 := (by omega)
  have hx_w6_w : w.heap.size < w6.heap.size + 1 + 1 := (by omega)
  have hc_w6_w := fun o => hb_w6.cell (p := ⟨w.heap.size, o, none⟩) (by first | omega | (simp; done) | (simp; omega))
  have hf_w6_w := fun o => hb_w6.frozen (p := ⟨w.heap.size, o, none⟩) (by first | omega | (simp; done) | (simp; omega))
  go_wp2_with fail
  refine (TB.out _ (hS.below (by repeat' (first | (with_reducible exact Below.refl _ _) | (with_reducible assumption) | (with_reducible refine bl_alloc ?_ _) | (with_reducible refine bl_drew ?_) | (with_reducible refine bl_drewN ?_) | (with_reducible refine bl_setCell ?_ ?_ _) | (with_reducible refine bl_call ?_ (by with_reducible assumption)) | omega | (simp; done) | (simp; omega))))).mono ?_
  rintro e w7 ⟨rfl, hb_w7⟩
  have hs_w7 := hb_w7.size
  (try simp at hs_w7)
  have hz_w7_w : w.heap.size < w7.heap.size := (by have hs := hb_w7.size; (try simp at hs); omega)
  have hy_w7_w : w.heap.size < w7.heap.size + 1 := (by omega)
  have hx_w7_w : w.heap.size < w7.heap.size + 1 + 1 := (by omega)
  have hc_w7_w := fun o => hb_w7.cell (p := ⟨w.heap.size, o, none⟩) (by first | omega | (simp; done) | (simp; omega))
  have hf_w7_w := fun o => hb_w7.frozen (p := ⟨w.heap.size, o, none⟩) (by first | omega | (simp; done) | (simp; omega))
  go_wp2_with fail
  refine calm_all (by kernel_rfl) (by kernel_rfl) fun hG => ?_
  have hg_w := hG (w.heap.size) (by first | omega | (simp; done) | (simp; omega))
  have hg_w7 := hG (w7.heap.size) (by first | omega | (simp; done) | (simp; omega))
  clear hG
  repeat (go_big_quiet_step (first | (go_at_call 22; with_reducible exact calm_call TE.out) | (go_at_call 21; with_reducible exact calm_call TW.out) | (go_at_call 23; with_reducible exact calm_call TS.out)))
  refine wpQuiet_nil ?_
  intro w8 hb_w8
  clear hg_w hg_w7
  have hs_w8 := hb_w8.size
  (try simp at hs_w8)
  have hz_w8_w : w.heap.size < w8.heap.size := (by have hs := hb_w8.size; (try simp at hs); omega)
  have hy_w8_w : w.heap.size < w8.heap.size + 1 := (by omega)
  have hx_w8_w : w.heap.size < w8.heap.size + 1 + 1 := (by omega)
  have hc_w8_w := fun o => hb_w8.cell (p := ⟨w.heap.size, o, none⟩) (by first | omega | (simp; done) | (simp; omega))
  have hf_w8_w := fun o => hb_w8.frozen (p := ⟨w.heap.size, o, none⟩) (by first | omega | (simp; done) | (simp; omega))
  have hz_w8_w7 : w7.heap.size < w8.heap.size := (by have hs := hb_w8.size; (try simp at hs); omega)
  have hy_w8_w7 : w7.heap.size < w8.heap.size + 1 := (by omega)
  have hx_w8_w7 : w7.heap.size < w8.heap.size + 1 + 1 := (by omega)
  have hc_w8_w7 := fun o => hb_w8.cell (p := ⟨w7.heap.size, o, none⟩) (by first | omega | (simp; done) | (simp; omega))
  have hf_w8_w7 := fun o => hb_w8.frozen (p := ⟨w7.heap.size, o, none⟩) (by first | omega | (simp; done) | (simp; omega))
  go_wp2
  go_ret
  exact ⟨rfl, (by repeat' (first | (with_reducible exact Below.refl _ _) | (with_reducible assumption) | (with_reducible refine bl_alloc ?_ _) | (with_reducible refine bl_drew ?_) | (with_reducible refine bl_drewN ?_) | (with_reducible refine bl_setCell ?_ ?_ _) | (with_reducible refine bl_call ?_ (by with_reducible assumption)) | omega | (simp; done) | (simp; omega)))⟩

set_option maxRecDepth 100000 in
set_option maxHeartbeats 4000000 in
theorem texts_wrong (x y r : Int) (s : ByteArray) (w : World) (hS : Std w) (hs : (s.size : Int) ≤ 100) (h : ¬ Right (cutI x) (cutI y) r) :
    Calls Tryz.prog 4 #[.agg #[.int .i64 x, .int .i64 y, .int .i64 r], .string s] w fun e w' => e = .returned (.bool true) ∧ Below w.heap.size w w' := by
  obtain ⟨P, hP⟩ : ∃ P, parseM s.data.toList = P := ⟨_, rfl⟩
  have tP := fun w hS => Parse_q s w hS (by omega) P hP
  have tR := fun w => rParse_q s w (by omega) P hP
  have tI := fun w => is_same P.a P.b P.c P.q w
  have tW := fun w => wBall_any x y r w
  have tF := fun w => Format_no (cutI x) (cutI y) r w (cutI_flo x) (cutI_flo y) h
  have tB := fun w hS => Parse_q { data := #[] } w hS (by decide) (.bad 4) parse_empty
  obtain ⟨q1, q2, q3, q4⟩ := quad_bad 4
  simp only [q1, q2, q3, q4] at tB
  have tE := fun w => err_any x y r w
  rw [show errW x y r = 2 from by unfold errW chk; exact if_neg h] at tE
  clear h q1 q2 q3 q4 hP
  generalize cutI x = X at *
  generalize cutI y = Y at *
  have TP := Lib.hid tP
  have TR := Lib.hid tR
  have TI := Lib.hid tI
  have TW := Lib.hid tW
  have TF := Lib.hid tF
  have TB := Lib.hid tB
  have TE := Lib.hid tE
  clear tP tR tI tW tF tB tE
  go_enter Tryz.func4, Tryz.ntmps4
  go_wp2_with fail
  refine (awake_any _).mono ?_
  rintro e w1 ⟨rfl, hb_w1⟩
  have hs_w1 := hb_w1.size
  (try simp at hs_w1)
  have hz_w1_w : w.heap.size < w1.heap.size := (by have hs := hb_w1.size; (try simp at hs); omega)
  have hy_w1_w : w.heap.size < w1.heap.size + 1 := (by omega)
  have hx_w1_w : w.heap.size < w1.heap.size + 1 + 1 := (by omega)
  have hc_w1_w := fun o => hb_w1.cell (p := ⟨w.heap.size, o, none⟩) (by first | omega | (simp; done) | (simp; omega))
  have hf_w1_w := fun o => hb_w1.frozen (p := ⟨w.heap.size, o, none⟩) (by first | omega | (simp; done) | (simp; omega))
  go_wp2_with fail
  refine (TP.out _ (hS.below (by repeat' (first | (with_reducible exact Below.refl _ _) | (with_reducible assumption) | (with_reducible refine bl_alloc ?_ _) | (with_reducible refine bl_drew ?_) | (with_reducible refine bl_drewN ?_) | (with_reducible refine bl_setCell ?_ ?_ _) | (with_reducible refine bl_call ?_ (by with_reducible assumption)) | omega | (simp; done) | (simp; omega))))).mono ?_
  rintro e w2 ⟨rfl, hb_w2⟩
  have hs_w2 := hb_w2.size
  (try simp at hs_w2)
  have hz_w2_w : w.heap.size < w2.heap.size := (by have hs := hb_w2.size; (try simp at hs); omega)
  have hy_w2_w : w.heap.size < w2.heap.size + 1 := (by omega)
  have hx_w2_w : w.heap.size < w2.heap.size + 1 + 1 := (by omega)
  have hc_w2_w := fun o => hb_w2.cell (p := ⟨w.heap.size, o, none⟩) (by first | omega | (simp; done) | (simp; omega))
  have hf_w2_w := fun o => hb_w2.frozen (p := ⟨w.heap.size, o, none⟩) (by first | omega | (simp; done) | (simp; omega))
  go_wp2_with fail
  refine (TR.out _).mono ?_
  rintro e w3 ⟨rfl, hb_w3⟩
  have hs_w3 := hb_w3.size
  (try simp at hs_w3)
  have hz_w3_w : w.heap.size < w3.heap.size := (by have hs := hb_w3.size; (try simp at hs); omega)
  have hy_w3_w : w.heap.size < w3.heap.size + 1 := (by omega)
  have hx_w3_w : w.heap.size < w3.heap.size + 1 + 1 := (by omega)
  have hc_w3_w := fun o => hb_w3.cell (p := ⟨w.heap.size, o, none⟩) (by first | omega | (simp; done) | (simp; omega))
  have hf_w3_w := fun o => hb_w3.frozen (p := ⟨w.heap.size, o, none⟩) (by first | omega | (simp; done) | (simp; omega))
  have hz_w3_w2 : w2.heap.size < w3.heap.size := (by have hs := hb_w3.size; (try simp at hs); omega)
  have hy_w3_w2 : w2.heap.size < w3.heap.size + 1 := (by omega)
  have hx_w3_w2 : w2.heap.size < w3.heap.size + 1 + 1 := (by omega)
  have hc_w3_w2 := fun o => hb_w3.cell (p := ⟨w2.heap.size, o, none⟩) (by first | omega | (simp; done) | (simp; omega))
  have hf_w3_w2 := fun o => hb_w3.frozen (p := ⟨w2.heap.size, o, none⟩) (by first | omega | (simp; done) | (simp; omega))
  go_wp2_with fail
  refine (TI.out _).mono ?_
  rintro e w4 ⟨rfl, hb_w4⟩
  have hs_w4 := hb_w4.size
  (try simp at hs_w4)
  have hz_w4_w : w.heap.size < w4.heap.size := (by have hs := hb_w4.size; (try simp at hs); omega)
  have hy_w4_w : w.heap.size < w4.heap.size + 1 := (by omega)
  have hx_w4_w : w.heap.size < w4.heap.size + 1 + 1 := (by omega)
  have hc_w4_w := fun o => hb_w4.cell (p := ⟨w.heap.size, o, none⟩) (by first | omega | (simp; done) | (simp; omega))
  have hf_w4_w := fun o => hb_w4.frozen (p := ⟨w.heap.size, o, none⟩) (by first | omega | (simp; done) | (simp; omega))
  go_wp2_with fail
  refine (TW.out _).mono ?_
  rintro e w5 ⟨rfl, hb_w5⟩
  have hs_w5 := hb_w5.size
  (try simp at hs_w5)
  have hz_w5_w : w.heap.size < w5.heap.size := (by have hs := hb_w5.size; (try simp at hs); omega)
  have hy_w5_w : w.heap.size < w5.heap.size + 1 := (by omega)
  have hx_w5_w : w.heap.size < w5.heap.size + 1 + 1 := (by omega)
  have hc_w5_w := fun o => hb_w5.cell (p := ⟨w.heap.size, o, none⟩) (by first | omega | (simp; done) | (simp; omega))
  have hf_w5_w := fun o => hb_w5.frozen (p := ⟨w.heap.size, o, none⟩) (by first | omega | (simp; done) | (simp; omega))
  go_wp2_with fail
  refine (TF.out _).mono ?_
  rintro e w6 ⟨rfl, hb_w6⟩
  have hs_w6 := hb_w6.size
  (try simp at hs_w6)
  have hz_w6_w : w.heap.size < w6.heap.size := (by have hs := hb_w6.size; (try simp at hs); omega)
  have hy_w6_w : w.heap.size < w6.heap.size + 1 := (by omega)
  have hx_w6_w : w.heap.size < w6.heap.size + 1 + 1 := (by omega)
  have hc_w6_w := fun o => hb_w6.cell (p := ⟨w.heap.size, o, none⟩) (by first | omega | (simp; done) | (simp; omega))
  have hf_w6_w := fun o => hb_w6.frozen (p := ⟨w.heap.size, o, none⟩) (by first | omega | (simp; done) | (simp; omega))
  go_wp2_with fail
  refine (TB.out _ (hS.below (by repeat' (first | (with_reducible exact Below.refl _ _) | (with_reducible assumption) | (with_reducible refine bl_alloc ?_ _) | (with_reducible refine bl_drew ?_) | (with_reducible refine bl_drewN ?_) | (with_reducible refine bl_setCell ?_ ?_ _) | (with_reducible refine bl_call ?_ (by with_reducible assumption)) | omega | (simp; done) | (simp; omega))))).mono ?_
  rintro e w7 ⟨rfl, hb_w7⟩
  have hs_w7 := hb_w7.size
  (try simp at hs_w7)
  have hz_w7_w : w.heap.size < w7.heap.size := (by have hs := hb_w7.size; (try simp at hs); omega)
  have hy_w7_w : w.heap.size < w7.heap.size + 1 := (by omega)
  have hx_w7_w : w.heap.size < w7.heap.size + 1 + 1 := (by omega)
  have hc_w7_w := fun o => hb_w7.cell (p := ⟨w.heap.size, o, none⟩) (by first | omega | (simp; done) | (simp; omega))
  have hf_w7_w := fun o => hb_w7.frozen (p := ⟨w.heap.size, o, none⟩) (by first | omega | (simp; done) | (simp; omega))
  go_wp2_with fail
  refine calm_all (by kernel_rfl) (by kernel_rfl) fun hG => ?_
  have hg_w := hG (w.heap.size) (by first | omega | (simp; done) | (simp; omega))
  have hg_w7 := hG (w7.heap.size) (by first | omega | (simp; done) | (simp; omega))
  clear hG
  repeat (go_big_quiet_step (first | (go_at_call 22; with_reducible exact calm_call TE.out)))
  refine wpQuiet_nil ?_
  intro w8 hb_w8
  clear hg_w hg_w7
  have hs_w8 := hb_w8.size
  (try simp at hs_w8)
  have hz_w8_w : w.heap.size < w8.heap.size := (by have hs := hb_w8.size; (try simp at hs); omega)
  have hy_w8_w : w.heap.size < w8.heap.size + 1 := (by omega)
  have hx_w8_w : w.heap.size < w8.heap.size + 1 + 1 := (by omega)
  have hc_w8_w := fun o => hb_w8.cell (p := ⟨w.heap.size, o, none⟩) (by first | omega | (simp; done) | (simp; omega))
  have hf_w8_w := fun o => hb_w8.frozen (p := ⟨w.heap.size, o, none⟩) (by first | omega | (simp; done) | (simp; omega))
  have hz_w8_w7 : w7.heap.size < w8.heap.size := (by have hs := hb_w8.size; (try simp at hs); omega)
  have hy_w8_w7 : w7.heap.size < w8.heap.size + 1 := (by omega)
  have hx_w8_w7 : w7.heap.size < w8.heap.size + 1 + 1 := (by omega)
  have hc_w8_w7 := fun o => hb_w8.cell (p := ⟨w7.heap.size, o, none⟩) (by first | omega | (simp; done) | (simp; omega))
  have hf_w8_w7 := fun o => hb_w8.frozen (p := ⟨w7.heap.size, o, none⟩) (by first | omega | (simp; done) | (simp; omega))
  go_wp2
  go_ret
  exact ⟨rfl, (by repeat' (first | (with_reducible exact Below.refl _ _) | (with_reducible assumption) | (with_reducible refine bl_alloc ?_ _) | (with_reducible refine bl_drew ?_) | (with_reducible refine bl_drewN ?_) | (with_reducible refine bl_setCell ?_ ?_ _) | (with_reducible refine bl_call ?_ (by with_reducible assumption)) | omega | (simp; done) | (simp; omega)))⟩

theorem texts_any (x y r : Int) (s : ByteArray) (w : World) (hS : Std w) :
    Calls Tryz.prog 4 #[.agg #[.int .i64 x, .int .i64 y, .int .i64 r], .string s] w fun e w' => e = .returned (.bool true) ∧ Below w.heap.size w w' := by
  by_cases hl : 100 < (s.size : Int)
  · exact texts_long x y r s w hl
  · by_cases h : Right (cutI x) (cutI y) r
    · exact texts_right x y r s w hS (by omega) h
    · exact texts_wrong x y r s w hS (by omega) h
end Go.Proofs.YtjgmjnjpgdadhaaGreatDoor

