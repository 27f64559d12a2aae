/- Joined: Whole2 Lies Lies2 Hull Hull2. -/
import Derived.Test.YtjgmjnjpgdadhaaKBall
import Derived.Test.YtjgmjnjpgdadhaaKAdds
import Derived.Test.YtjgmjnjpgdadhaaKCalm
/- The walks of reading a number of up to twice the limit. -/
namespace Go.Proofs.Ytjgmjnjpgdadhaa
open Go.RowKit

theorem most2_eq : fl 134217728 = 4728779608739020800 := by decide

/-- Both parts are within the limit. -/
def Fits2 (x y : Int) : Prop := -134217728 ≤ x ∧ x ≤ 134217728 ∧ -134217728 ≤ y ∧ y ≤ 134217728

theorem ord2_in (n : Int) (h1 : -134217728 ≤ n) (h2 : n ≤ 134217728) : (FloatKind.f64.format.order (fl (n.natAbs : Nat)) 4728779608739020800 == some .gt) = false := by
  rw [← most2_eq]
  by_cases h : (n.natAbs : Int) = 134217728
  · rw [h, ord_eq (by omega) (by omega)]; rfl
  · rw [ord_lt (by omega) (by omega) (by omega) (by omega) (by omega)]; rfl
theorem ord2_out (n : Int) (h1 : -9007199254740992 ≤ n) (h2 : n ≤ 9007199254740992) (h : n < -134217728 ∨ 134217728 < n) : (FloatKind.f64.format.order (fl (n.natAbs : Nat)) 4728779608739020800 == some .gt) = true := by
  rw [← most2_eq, ord_gt (by omega) (by omega) (by omega) (by omega) (by omega)]; rfl

set_option maxHeartbeats 1000000 in
theorem whole2_yes (x y : Int) (w : World) (h : Fits2 x y) :
    Calls Try.prog 121 #[.complex .f64 (fl x) (fl y), .float .f64 4728779608739020800] w fun e w' => e = .returned (.tuple #[.agg #[.int .i64 x, .int .i64 y], .int .i64 0]) ∧ Below w.heap.size w w' := by
  obtain ⟨h1, h2, h3, h4⟩ := h
  have ox := ord2_in x h1 h2
  have oy := ord2_in y h3 h4
  have i0 : ∀ w, (Instr.index 125 (.agg #[.float .f64 (fl x), .float .f64 (fl y)]) (.int .i64 0)).run Try.prog w = .ok (.float .f64 (fl x)) w := fun _ => by kernel_rfl
  have i1 : ∀ w, (Instr.index 125 (.agg #[.float .f64 (fl x), .float .f64 (fl y)]) (.int .i64 1)).run Try.prog w = .ok (.float .f64 (fl y)) w := fun _ => by kernel_rfl
  go_enter Try.func121, Try.ntmps121
  go_wp2_with fail
  refine wp_loop_rounds 3 ?_
  iterate 3 (rw [rounds_succ]; go_wp2_with (first
    | (go_at_call 136; first | (with_reducible refine (isWhole_any x _ (by omega) (by omega)).mono ?_; rintro e w' ⟨rfl, rfl⟩) | (with_reducible refine (isWhole_any y _ (by omega) (by omega)).mono ?_; rintro e w' ⟨rfl, rfl⟩))))
  refine wp_loop_rounds 3 ?_
  iterate 3 (rw [rounds_succ]; go_wp2_with (first
    | (go_at_call 137; first | (with_reducible refine (abs_any x _).mono ?_; rintro e w' ⟨rfl, rfl⟩) | (with_reducible refine (abs_any y _).mono ?_; rintro e w' ⟨rfl, rfl⟩))
    | (go_at_call 138; (with_reducible refine (centerOf_any x y _ (by omega) (by omega) (by omega) (by omega)).mono ?_); rintro e w1 ⟨rfl, hb1⟩; have hz_w1_w : w.heap.size < w1.heap.size := (by have hs := hb1.size; (try simp at hs); omega); have hy_w1_w : w.heap.size < w1.heap.size + 1 := (by omega); have hx_w1_w : w.heap.size < w1.heap.size + 1 + 1 := (by omega); have hc_w1_w := fun o => hb1.cell (p := ⟨w.heap.size, o, none⟩) (by first | omega | (simp; done) | (simp; omega)); have hf_w1_w := fun o => hb1.frozen (p := ⟨w.heap.size, o, none⟩) (by first | omega | (simp; done) | (simp; omega)))))
  refine bodyPost_ret (by simp [results, Try.results121, go_sem, *]; first | done | rfl) rfl ?_
  exact ⟨rfl, (by repeat' (first | (with_reducible exact Below.refl _ _) | (with_reducible assumption) | (with_reducible refine bl_alloc ?_ _) | (with_reducible refine bl_drew ?_) | (with_reducible refine bl_drewN ?_) | (with_reducible refine bl_setCell ?_ ?_ _) | (with_reducible refine bl_call ?_ (by with_reducible assumption)) | omega | (simp; done) | (simp; omega)))⟩

set_option maxHeartbeats 1000000 in
theorem whole2_no1 (x y : Int) (w : World) (f1 : Flo x) (f2 : Flo y) (h : x < -134217728 ∨ 134217728 < x) :
    Calls Try.prog 121 #[.complex .f64 (fl x) (fl y), .float .f64 4728779608739020800] w fun e w' => e = .returned (.tuple #[.agg #[.int .i64 0, .int .i64 0], .int .i64 2]) ∧ Below w.heap.size w w' := by
  obtain ⟨h1, h2⟩ := f1
  obtain ⟨h3, h4⟩ := f2
  have ox := ord2_out x h1 h2 h
  clear h
  have i0 : ∀ w, (Instr.index 125 (.agg #[.float .f64 (fl x), .float .f64 (fl y)]) (.int .i64 0)).run Try.prog w = .ok (.float .f64 (fl x)) w := fun _ => by kernel_rfl
  have i1 : ∀ w, (Instr.index 125 (.agg #[.float .f64 (fl x), .float .f64 (fl y)]) (.int .i64 1)).run Try.prog w = .ok (.float .f64 (fl y)) w := fun _ => by kernel_rfl
  go_enter Try.func121, Try.ntmps121
  go_wp2_with fail
  refine wp_loop_rounds 3 ?_
  iterate 3 (rw [rounds_succ]; go_wp2_with (first
    | (go_at_call 136; first | (with_reducible refine (isWhole_any x _ (by omega) (by omega)).mono ?_; rintro e w' ⟨rfl, rfl⟩) | (with_reducible refine (isWhole_any y _ (by omega) (by omega)).mono ?_; rintro e w' ⟨rfl, rfl⟩))))
  refine wp_loop_rounds 3 ?_
  iterate 1 (rw [rounds_succ]; go_wp2_with (first
    | (go_at_call 137; first | (with_reducible refine (abs_any x _).mono ?_; rintro e w' ⟨rfl, rfl⟩) | (with_reducible refine (abs_any y _).mono ?_; rintro e w' ⟨rfl, rfl⟩))
    | (go_at_call 138; (with_reducible refine (centerOf_any x y _ (by omega) (by omega) (by omega) (by omega)).mono ?_); rintro e w1 ⟨rfl, hb1⟩; have hz_w1_w : w.heap.size < w1.heap.size := (by have hs := hb1.size; (try simp at hs); omega); have hy_w1_w : w.heap.size < w1.heap.size + 1 := (by omega); have hx_w1_w : w.heap.size < w1.heap.size + 1 + 1 := (by omega); have hc_w1_w := fun o => hb1.cell (p := ⟨w.heap.size, o, none⟩) (by first | omega | (simp; done) | (simp; omega)); have hf_w1_w := fun o => hb1.frozen (p := ⟨w.heap.size, o, none⟩) (by first | omega | (simp; done) | (simp; omega)))))
  refine bodyPost_ret (by simp [results, Try.results121, go_sem, *]; first | done | rfl) rfl ?_
  exact ⟨rfl, (by repeat' (first | (with_reducible exact Below.refl _ _) | (with_reducible assumption) | (with_reducible refine bl_alloc ?_ _) | (with_reducible refine bl_drew ?_) | (with_reducible refine bl_drewN ?_) | (with_reducible refine bl_setCell ?_ ?_ _) | (with_reducible refine bl_call ?_ (by with_reducible assumption)) | omega | (simp; done) | (simp; omega)))⟩

set_option maxHeartbeats 1000000 in
theorem whole2_no2 (x y : Int) (w : World) (f2 : Flo y) (hx : -134217728 ≤ x ∧ x ≤ 134217728) (h : y < -134217728 ∨ 134217728 < y) :
    Calls Try.prog 121 #[.complex .f64 (fl x) (fl y), .float .f64 4728779608739020800] w fun e w' => e = .returned (.tuple #[.agg #[.int .i64 0, .int .i64 0], .int .i64 2]) ∧ Below w.heap.size w w' := by
  obtain ⟨h3, h4⟩ := f2
  have ox := ord2_in x hx.1 hx.2
  have oy := ord2_out y h3 h4 h
  clear h
  have i0 : ∀ w, (Instr.index 125 (.agg #[.float .f64 (fl x), .float .f64 (fl y)]) (.int .i64 0)).run Try.prog w = .ok (.float .f64 (fl x)) w := fun _ => by kernel_rfl
  have i1 : ∀ w, (Instr.index 125 (.agg #[.float .f64 (fl x), .float .f64 (fl y)]) (.int .i64 1)).run Try.prog w = .ok (.float .f64 (fl y)) w := fun _ => by kernel_rfl
  go_enter Try.func121, Try.ntmps121
  go_wp2_with fail
  refine wp_loop_rounds 3 ?_
  iterate 3 (rw [rounds_succ]; go_wp2_with (first
    | (go_at_call 136; first | (with_reducible refine (isWhole_any x _ (by omega) (by omega)).mono ?_; rintro e w' ⟨rfl, rfl⟩) | (with_reducible refine (isWhole_any y _ (by omega) (by omega)).mono ?_; rintro e w' ⟨rfl, rfl⟩))))
  refine wp_loop_rounds 3 ?_
  iterate 2 (rw [rounds_succ]; go_wp2_with (first
    | (go_at_call 137; first | (with_reducible refine (abs_any x _).mono ?_; rintro e w' ⟨rfl, rfl⟩) | (with_reducible refine (abs_any y _).mono ?_; rintro e w' ⟨rfl, rfl⟩))
    | (go_at_call 138; (with_reducible refine (centerOf_any x y _ (by omega) (by omega) (by omega) (by omega)).mono ?_); rintro e w1 ⟨rfl, hb1⟩; have hz_w1_w : w.heap.size < w1.heap.size := (by have hs := hb1.size; (try simp at hs); omega); have hy_w1_w : w.heap.size < w1.heap.size + 1 := (by omega); have hx_w1_w : w.heap.size < w1.heap.size + 1 + 1 := (by omega); have hc_w1_w := fun o => hb1.cell (p := ⟨w.heap.size, o, none⟩) (by first | omega | (simp; done) | (simp; omega)); have hf_w1_w := fun o => hb1.frozen (p := ⟨w.heap.size, o, none⟩) (by first | omega | (simp; done) | (simp; omega)))))
  refine bodyPost_ret (by simp [results, Try.results121, go_sem, *]; first | done | rfl) rfl ?_
  exact ⟨rfl, (by repeat' (first | (with_reducible exact Below.refl _ _) | (with_reducible assumption) | (with_reducible refine bl_alloc ?_ _) | (with_reducible refine bl_drew ?_) | (with_reducible refine bl_drewN ?_) | (with_reducible refine bl_setCell ?_ ?_ _) | (with_reducible refine bl_call ?_ (by with_reducible assumption)) | omega | (simp; done) | (simp; omega)))⟩

end Go.Proofs.Ytjgmjnjpgdadhaa
/- The walks of the questions about balls: whether they lie apart, meet, or one in the other. -/
namespace Go.Proofs.Ytjgmjnjpgdadhaa
open Go.RowKit

/-- Whether two centres are at most so far apart. -/
@[irreducible] def apB (a b c d m : Int) : Bool := decide (0 ≤ m) && decide ((a - c) * (a - c) + (b - d) * (b - d) ≤ m * m)

set_option maxHeartbeats 1000000 in
theorem apart_any (a b c d m : Int) (w : World) (h1 : Sm a) (h2 : Sm b) (h3 : Sm c) (h4 : Sm d) (h5 : Sm (a - c)) (h6 : Sm (b - d)) (h7 : Sm m) :
    Calls Try.prog 118 #[.agg #[.int .i64 a, .int .i64 b], .agg #[.int .i64 c, .int .i64 d], .int .i64 m] w fun e w' => e = .returned (.bool (apB a b c d m)) ∧ Below w.heap.size w w' := by
  have q1 := h7.mul h7
  by_cases hm : 0 ≤ m
  · have e : apB a b c d m = decide ((a - c) * (a - c) + (b - d) * (b - d) ≤ m * m) := by unfold apB; simp [hm]
    rw [e]
    have cm := fun w => minus_any a b c d w h1 h2 h3 h4
    have cs := fun w => square_any (a - c) (b - d) w h5 h6
    have s5 := h5.mul h5
    have s6 := h6.mul h6
    generalize (a - c) * (a - c) + (b - d) * (b - d) = S at *
    have CM := Lib.hid cm
    have CS := Lib.hid cs
    clear cm cs s5 s6 h5 h6
    go_enter Try.func118, Try.ntmps118
    go_wp2_with fail
    refine (CM.out _).mono ?_
    rintro e w1 ⟨rfl, hb_w1⟩
    have hs_w1 := hb_w1.size
    (try simp at hs_w1)
    go_wp2_with fail
    refine (CS.out _).mono ?_
    rintro e w2 ⟨rfl, hb_w2⟩
    have hs_w2 := hb_w2.size
    (try simp at hs_w2)
    go_wp2
    go_ret
    exact ⟨rfl, (by repeat' (first | (with_reducible exact Below.refl _ _) | (with_reducible assumption) | (with_reducible refine bl_alloc ?_ _) | (with_reducible refine bl_drew ?_) | (with_reducible refine bl_drewN ?_) | (with_reducible refine bl_setCell ?_ ?_ _) | (with_reducible refine bl_call ?_ (by with_reducible assumption)) | omega | (simp; done) | (simp; omega)))⟩
  · have e : apB a b c d m = false := by unfold apB; simp [hm]
    rw [e]
    go_enter Try.func118, Try.ntmps118
    go_wp2
    go_ret
    exact ⟨rfl, (by repeat' (first | (with_reducible exact Below.refl _ _) | (with_reducible assumption) | (with_reducible refine bl_alloc ?_ _) | (with_reducible refine bl_drew ?_) | (with_reducible refine bl_drewN ?_) | (with_reducible refine bl_setCell ?_ ?_ _) | (with_reducible refine bl_call ?_ (by with_reducible assumption)) | omega | (simp; done) | (simp; omega)))⟩

theorem Sm.of {x : Int} (h1 : -1073741824 ≤ x) (h2 : x ≤ 1073741824) : Sm x := ⟨h1, h2⟩

set_option maxHeartbeats 1000000 in
theorem meets1_any (a b r c d s : Int) (w : World) (h : Right a b r) (h' : Right c d s) :
    Calls Try.prog 117 #[.agg #[.int .i64 a, .int .i64 b, .int .i64 r], .agg #[.int .i64 c, .int .i64 d, .int .i64 s]] w fun e w' => e = .returned (.bool (apB a b c d (r + s))) ∧ Below w.heap.size w w' := by
  obtain ⟨⟨h1, h2, h3, h4⟩, r0, r1⟩ := h
  obtain ⟨⟨h5, h6, h7, h8⟩, s0, s1⟩ := h'
  have C := Lib.hid (fun w => apart_any a b c d (r + s) w (.of (by omega) (by omega)) (.of (by omega) (by omega)) (.of (by omega) (by omega)) (.of (by omega) (by omega)) (.of (by omega) (by omega)) (.of (by omega) (by omega)) (.of (by omega) (by omega)))
  go_enter Try.func117, Try.ntmps117
  go_wp2_with fail
  refine (C.out _).mono ?_
  rintro e w1 ⟨rfl, hb_w1⟩
  have hs_w1 := hb_w1.size
  (try simp at hs_w1)
  go_wp2
  go_ret
  exact ⟨rfl, (by repeat' (first | (with_reducible exact Below.refl _ _) | (with_reducible assumption) | (with_reducible refine bl_alloc ?_ _) | (with_reducible refine bl_drew ?_) | (with_reducible refine bl_drewN ?_) | (with_reducible refine bl_setCell ?_ ?_ _) | (with_reducible refine bl_call ?_ (by with_reducible assumption)) | omega | (simp; done) | (simp; omega)))⟩

set_option maxHeartbeats 1000000 in
theorem inside1_any (a b r c d s : Int) (w : World) (h : Right a b r) (h' : Right c d s) :
    Calls Try.prog 123 #[.agg #[.int .i64 a, .int .i64 b, .int .i64 r], .agg #[.int .i64 c, .int .i64 d, .int .i64 s]] w fun e w' => e = .returned (.bool (apB a b c d (s - r))) ∧ Below w.heap.size w w' := by
  obtain ⟨⟨h1, h2, h3, h4⟩, r0, r1⟩ := h
  obtain ⟨⟨h5, h6, h7, h8⟩, s0, s1⟩ := h'
  have C := Lib.hid (fun w => apart_any a b c d (s - r) w (.of (by omega) (by omega)) (.of (by omega) (by omega)) (.of (by omega) (by omega)) (.of (by omega) (by omega)) (.of (by omega) (by omega)) (.of (by omega) (by omega)) (.of (by omega) (by omega)))
  go_enter Try.func123, Try.ntmps123
  go_wp2_with fail
  refine (C.out _).mono ?_
  rintro e w1 ⟨rfl, hb_w1⟩
  have hs_w1 := hb_w1.size
  (try simp at hs_w1)
  go_wp2
  go_ret
  exact ⟨rfl, (by repeat' (first | (with_reducible exact Below.refl _ _) | (with_reducible assumption) | (with_reducible refine bl_alloc ?_ _) | (with_reducible refine bl_drew ?_) | (with_reducible refine bl_drewN ?_) | (with_reducible refine bl_setCell ?_ ?_ _) | (with_reducible refine bl_call ?_ (by with_reducible assumption)) | omega | (simp; done) | (simp; omega)))⟩

/-- What the question's function hands back for these two discs. -/
def Asks (k : Nat) (x y r x' y' r' : Int) (v : Bool) : Prop :=
  ∀ w1, Calls Try.prog k #[.agg #[.int .i64 x, .int .i64 y, .int .i64 r], .agg #[.int .i64 x', .int .i64 y', .int .i64 r']] w1 fun e w' => e = .returned (.bool v) ∧ Below w1.heap.size w1 w'
theorem Asks.go {k : Nat} {x y r x' y' r' : Int} {v : Bool} (h : Asks k x y r x' y' r' v) (w1 : World) : Calls Try.prog k #[.agg #[.int .i64 x, .int .i64 y, .int .i64 r], .agg #[.int .i64 x', .int .i64 y', .int .i64 r']] w1 fun e w' => e = .returned (.bool v) ∧ Below w1.heap.size w1 w' := h w1

set_option maxHeartbeats 1000000 in
theorem ask_yes (k : Nat) (x y r x' y' r' : Int) (v : Bool) (w : World) (eg : ∀ args w, (callFunc k args).run Try.prog w = .ok (.enter k args) w) (h : Right x y r) (h' : Right x' y' r') (hd : Asks k x y r x' y' r' v) :
    Calls Try.prog 116 #[.agg #[.complex .f64 (fl x) (fl y), .int .i64 r], .agg #[.complex .f64 (fl x') (fl y'), .int .i64 r'], .func (.func k) #[] #[]] w fun e w' => e = .returned (.tuple #[.bool v, .int .i64 0]) ∧ Below w.heap.size w w' := by
  go_enter Try.func116, Try.ntmps116
  go_wp2_with fail
  refine (read_yes x y r _ h.1 h.2.1 h.2.2).mono ?_
  rintro e w1 ⟨rfl, hb_w1⟩
  have hs_w1 := hb_w1.size
  (try simp at hs_w1)
  have hz_w1_wp1 : w.heap.size + 1 < w1.heap.size := (by have hs := hb_w1.size; (try simp at hs); omega)
  have hy_w1_wp1 : w.heap.size + 1 < w1.heap.size + 1 := (by omega)
  have hx_w1_wp1 : w.heap.size + 1 < w1.heap.size + 1 + 1 := (by omega)
  have hc_w1_wp1 := fun o => hb_w1.cell (p := ⟨w.heap.size + 1, o, none⟩) (by first | omega | (simp; done) | (simp; omega))
  have hf_w1_wp1 := fun o => hb_w1.frozen (p := ⟨w.heap.size + 1, o, none⟩) (by first | omega | (simp; done) | (simp; omega))
  go_wp2_with fail
  refine (read_yes x' y' r' _ h'.1 h'.2.1 h'.2.2).mono ?_
  rintro e w2 ⟨rfl, hb_w2⟩
  have hs_w2 := hb_w2.size
  (try simp at hs_w2)
  have hz_w2_w1 : w1.heap.size < w2.heap.size := (by have hs := hb_w2.size; (try simp at hs); omega)
  have hy_w2_w1 : w1.heap.size < w2.heap.size + 1 := (by omega)
  have hx_w2_w1 : w1.heap.size < w2.heap.size + 1 + 1 := (by omega)
  have hc_w2_w1 := fun o => hb_w2.cell (p := ⟨w1.heap.size, o, none⟩) (by first | omega | (simp; done) | (simp; omega))
  have hf_w2_w1 := fun o => hb_w2.frozen (p := ⟨w1.heap.size, o, none⟩) (by first | omega | (simp; done) | (simp; omega))
  go_wp2_with fail
  refine (hd.go _).mono ?_
  rintro e w3 ⟨rfl, hb_w3⟩
  have hs_w3 := hb_w3.size
  (try simp at hs_w3)
  go_wp2
  go_ret2
  exact ⟨rfl, (by repeat' (first | (with_reducible exact Below.refl _ _) | (with_reducible assumption) | (with_reducible refine bl_alloc ?_ _) | (with_reducible refine bl_drew ?_) | (with_reducible refine bl_drewN ?_) | (with_reducible refine bl_setCell ?_ ?_ _) | (with_reducible refine bl_call ?_ (by with_reducible assumption)) | omega | (simp; done) | (simp; omega)))⟩

set_option maxHeartbeats 1000000 in
theorem ask_bad1 (f : Value) (x y r x' y' r' : Int) (w : World) (f1 : Flo x) (f2 : Flo y) (h : ¬ Right x y r) :
    Calls Try.prog 116 #[.agg #[.complex .f64 (fl x) (fl y), .int .i64 r], .agg #[.complex .f64 (fl x') (fl y'), .int .i64 r'], f] w fun e w' => e = .returned (.tuple #[.bool false, .int .i64 2]) ∧ Below w.heap.size w w' := by
  have R : Hid (∀ w, ∃ a b, Calls Try.prog 119 #[.agg #[.complex .f64 (fl x) (fl y), .int .i64 r]] w fun e w' => e = .returned (.tuple #[.agg #[.int .i64 a, .int .i64 b, .int .i64 r], .int .i64 2]) ∧ Below w.heap.size w w') := Lib.hid fun w => read_no x y r w f1 f2 h
  go_enter Try.func116, Try.ntmps116
  go_wp2_with fail
  obtain ⟨a, b, hr⟩ := R.out _
  refine hr.mono ?_
  clear hr
  rintro e w1 ⟨rfl, hb1⟩
  have hs_w1 := hb1.size
  (try simp at hs_w1)
  have hz_w1_w : w.heap.size < w1.heap.size := (by have hs := hb1.size; (try simp at hs); omega)
  have hy_w1_w : w.heap.size < w1.heap.size + 1 := (by omega)
  have hx_w1_w : w.heap.size < w1.heap.size + 1 + 1 := (by omega)
  have hc_w1_w := fun o => hb1.cell (p := ⟨w.heap.size, o, none⟩) (by first | omega | (simp; done) | (simp; omega))
  have hf_w1_w := fun o => hb1.frozen (p := ⟨w.heap.size, o, none⟩) (by first | omega | (simp; done) | (simp; omega))
  have hz_w1_wp1 : w.heap.size + 1 < w1.heap.size := (by have hs := hb1.size; (try simp at hs); omega)
  have hy_w1_wp1 : w.heap.size + 1 < w1.heap.size + 1 := (by omega)
  have hx_w1_wp1 : w.heap.size + 1 < w1.heap.size + 1 + 1 := (by omega)
  have hc_w1_wp1 := fun o => hb1.cell (p := ⟨w.heap.size + 1, o, none⟩) (by first | omega | (simp; done) | (simp; omega))
  have hf_w1_wp1 := fun o => hb1.frozen (p := ⟨w.heap.size + 1, o, none⟩) (by first | omega | (simp; done) | (simp; omega))
  go_wp2
  go_ret2
  exact ⟨rfl, (by repeat' (first | (with_reducible exact Below.refl _ _) | (with_reducible assumption) | (with_reducible refine bl_alloc ?_ _) | (with_reducible refine bl_drew ?_) | (with_reducible refine bl_drewN ?_) | (with_reducible refine bl_setCell ?_ ?_ _) | (with_reducible refine bl_call ?_ (by with_reducible assumption)) | omega | (simp; done) | (simp; omega)))⟩

set_option maxHeartbeats 1000000 in
theorem ask_bad2 (f : Value) (x y r x' y' r' : Int) (w : World) (h : Right x y r) (f1 : Flo x') (f2 : Flo y') (h' : ¬ Right x' y' r') :
    Calls Try.prog 116 #[.agg #[.complex .f64 (fl x) (fl y), .int .i64 r], .agg #[.complex .f64 (fl x') (fl y'), .int .i64 r'], f] w fun e w' => e = .returned (.tuple #[.bool false, .int .i64 2]) ∧ Below w.heap.size w w' := by
  have R : Hid (∀ w, ∃ a b, Calls Try.prog 119 #[.agg #[.complex .f64 (fl x') (fl y'), .int .i64 r']] w fun e w' => e = .returned (.tuple #[.agg #[.int .i64 a, .int .i64 b, .int .i64 r'], .int .i64 2]) ∧ Below w.heap.size w w') := Lib.hid fun w => read_no x' y' r' w f1 f2 h'
  go_enter Try.func116, Try.ntmps116
  go_wp2_with fail
  refine (read_yes x y r _ h.1 h.2.1 h.2.2).mono ?_
  rintro e w1 ⟨rfl, hb1⟩
  have hs_w1 := hb1.size
  (try simp at hs_w1)
  have hz_w1_w : w.heap.size < w1.heap.size := (by have hs := hb1.size; (try simp at hs); omega)
  have hy_w1_w : w.heap.size < w1.heap.size + 1 := (by omega)
  have hx_w1_w : w.heap.size < w1.heap.size + 1 + 1 := (by omega)
  have hc_w1_w := fun o => hb1.cell (p := ⟨w.heap.size, o, none⟩) (by first | omega | (simp; done) | (simp; omega))
  have hf_w1_w := fun o => hb1.frozen (p := ⟨w.heap.size, o, none⟩) (by first | omega | (simp; done) | (simp; omega))
  have hz_w1_wp1 : w.heap.size + 1 < w1.heap.size := (by have hs := hb1.size; (try simp at hs); omega)
  have hy_w1_wp1 : w.heap.size + 1 < w1.heap.size + 1 := (by omega)
  have hx_w1_wp1 : w.heap.size + 1 < w1.heap.size + 1 + 1 := (by omega)
  have hc_w1_wp1 := fun o => hb1.cell (p := ⟨w.heap.size + 1, o, none⟩) (by first | omega | (simp; done) | (simp; omega))
  have hf_w1_wp1 := fun o => hb1.frozen (p := ⟨w.heap.size + 1, o, none⟩) (by first | omega | (simp; done) | (simp; omega))
  go_wp2_with fail
  obtain ⟨a, b, hr⟩ := R.out _
  refine hr.mono ?_
  clear hr
  rintro e w2 ⟨rfl, hb2⟩
  have hs_w2 := hb2.size
  (try simp at hs_w2)
  have hz_w2_w : w.heap.size < w2.heap.size := (by have hs := hb2.size; (try simp at hs); omega)
  have hy_w2_w : w.heap.size < w2.heap.size + 1 := (by omega)
  have hx_w2_w : w.heap.size < w2.heap.size + 1 + 1 := (by omega)
  have hc_w2_w := fun o => hb2.cell (p := ⟨w.heap.size, o, none⟩) (by first | omega | (simp; done) | (simp; omega))
  have hf_w2_w := fun o => hb2.frozen (p := ⟨w.heap.size, o, none⟩) (by first | omega | (simp; done) | (simp; omega))
  have hz_w2_wp1 : w.heap.size + 1 < w2.heap.size := (by have hs := hb2.size; (try simp at hs); omega)
  have hy_w2_wp1 : w.heap.size + 1 < w2.heap.size + 1 := (by omega)
  have hx_w2_wp1 : w.heap.size + 1 < w2.heap.size + 1 + 1 := (by omega)
  have hc_w2_wp1 := fun o => hb2.cell (p := ⟨w.heap.size + 1, o, none⟩) (by first | omega | (simp; done) | (simp; omega))
  have hf_w2_wp1 := fun o => hb2.frozen (p := ⟨w.heap.size + 1, o, none⟩) (by first | omega | (simp; done) | (simp; omega))
  have hz_w2_w1 : w1.heap.size < w2.heap.size := (by have hs := hb2.size; (try simp at hs); omega)
  have hy_w2_w1 : w1.heap.size < w2.heap.size + 1 := (by omega)
  have hx_w2_w1 : w1.heap.size < w2.heap.size + 1 + 1 := (by omega)
  have hc_w2_w1 := fun o => hb2.cell (p := ⟨w1.heap.size, o, none⟩) (by first | omega | (simp; done) | (simp; omega))
  have hf_w2_w1 := fun o => hb2.frozen (p := ⟨w1.heap.size, o, none⟩) (by first | omega | (simp; done) | (simp; omega))
  go_wp2
  go_ret2
  exact ⟨rfl, (by repeat' (first | (with_reducible exact Below.refl _ _) | (with_reducible assumption) | (with_reducible refine bl_alloc ?_ _) | (with_reducible refine bl_drew ?_) | (with_reducible refine bl_drewN ?_) | (with_reducible refine bl_setCell ?_ ?_ _) | (with_reducible refine bl_call ?_ (by with_reducible assumption)) | omega | (simp; done) | (simp; omega)))⟩

/-- Whether a question about two balls is answered, and how. -/
@[irreducible] def askV (x y r x' y' r' : Int) (v : Bool) : Bool := if Right x y r ∧ Right x' y' r' then v else false
@[irreducible] def askQ (x y r x' y' r' : Int) : Int := if Right x y r ∧ Right x' y' r' then 0 else 2

theorem ask_any (k : Nat) (x y r x' y' r' : Int) (v : Bool) (w : World) (eg : ∀ args w, (callFunc k args).run Try.prog w = .ok (.enter k args) w) (f1 : Flo x) (f2 : Flo y) (g1 : Flo x') (g2 : Flo y') (hd : Right x y r → Right x' y' r' → Asks k x y r x' y' r' v) :
    Calls Try.prog 116 #[.agg #[.complex .f64 (fl x) (fl y), .int .i64 r], .agg #[.complex .f64 (fl x') (fl y'), .int .i64 r'], .func (.func k) #[] #[]] w fun e w' => e = .returned (.tuple #[.bool (askV x y r x' y' r' v), .int .i64 (askQ x y r x' y' r')]) ∧ Below w.heap.size w w' := by
  unfold askV askQ
  by_cases h : Right x y r
  · by_cases h' : Right x' y' r'
    · rw [if_pos ⟨h, h'⟩, if_pos ⟨h, h'⟩]; exact ask_yes k x y r x' y' r' v w eg h h' (hd h h')
    · rw [if_neg (fun k => h' k.2), if_neg (fun k => h' k.2)]; exact ask_bad2 _ x y r x' y' r' w h g1 g2 h'
  · rw [if_neg (fun k => h k.1), if_neg (fun k => h k.1)]; exact ask_bad1 _ x y r x' y' r' w f1 f2 h

set_option maxHeartbeats 1000000 in
theorem Meets_any (x y r x' y' r' : Int) (w : World) (f1 : Flo x) (f2 : Flo y) (g1 : Flo x') (g2 : Flo y') :
    Calls Try.prog 52 #[.agg #[.complex .f64 (fl x) (fl y), .int .i64 r], .agg #[.complex .f64 (fl x') (fl y'), .int .i64 r']] w fun e w' => e = .returned (.tuple #[.bool (askV x y r x' y' r' (apB x y x' y' (r + r'))), .int .i64 (askQ x y r x' y' r')]) ∧ Below w.heap.size w w' := by
  have hd : Right x y r → Right x' y' r' → Asks 117 x y r x' y' r' (apB x y x' y' (r + r')) := fun h h' w1 => meets1_any x y r x' y' r' w1 h h'
  generalize apB x y x' y' (r + r') = v at *
  go_enter Try.func52, Try.ntmps52
  go_wp2_with fail
  refine (ask_any _ x y r x' y' r' v _ (enters_of Try.func117 (by kernel_rfl) rfl) f1 f2 g1 g2 hd).mono ?_
  rintro e w1 ⟨rfl, hb_w1⟩
  have hs_w1 := hb_w1.size
  (try simp at hs_w1)
  go_wp2
  go_ret2
  exact ⟨rfl, (by repeat' (first | (with_reducible exact Below.refl _ _) | (with_reducible assumption) | (with_reducible refine bl_alloc ?_ _) | (with_reducible refine bl_drew ?_) | (with_reducible refine bl_drewN ?_) | (with_reducible refine bl_setCell ?_ ?_ _) | (with_reducible refine bl_call ?_ (by with_reducible assumption)) | omega | (simp; done) | (simp; omega)))⟩

set_option maxHeartbeats 1000000 in
theorem Inside_any (x y r x' y' r' : Int) (w : World) (f1 : Flo x) (f2 : Flo y) (g1 : Flo x') (g2 : Flo y') :
    Calls Try.prog 58 #[.agg #[.complex .f64 (fl x) (fl y), .int .i64 r], .agg #[.complex .f64 (fl x') (fl y'), .int .i64 r']] w fun e w' => e = .returned (.tuple #[.bool (askV x y r x' y' r' (apB x y x' y' (r' - r))), .int .i64 (askQ x y r x' y' r')]) ∧ Below w.heap.size w w' := by
  have hd : Right x y r → Right x' y' r' → Asks 123 x y r x' y' r' (apB x y x' y' (r' - r)) := fun h h' w1 => inside1_any x y r x' y' r' w1 h h'
  generalize apB x y x' y' (r' - r) = v at *
  go_enter Try.func58, Try.ntmps58
  go_wp2_with fail
  refine (ask_any _ x y r x' y' r' v _ (enters_of Try.func123 (by kernel_rfl) rfl) f1 f2 g1 g2 hd).mono ?_
  rintro e w1 ⟨rfl, hb_w1⟩
  have hs_w1 := hb_w1.size
  (try simp at hs_w1)
  go_wp2
  go_ret2
  exact ⟨rfl, (by repeat' (first | (with_reducible exact Below.refl _ _) | (with_reducible assumption) | (with_reducible refine bl_alloc ?_ _) | (with_reducible refine bl_drew ?_) | (with_reducible refine bl_drewN ?_) | (with_reducible refine bl_setCell ?_ ?_ _) | (with_reducible refine bl_call ?_ (by with_reducible assumption)) | omega | (simp; done) | (simp; omega)))⟩
end Go.Proofs.Ytjgmjnjpgdadhaa
/- The walks of containing a number, and of the hull; the reference's. -/
namespace Go.Proofs.Ytjgmjnjpgdadhaa
open Go.RowKit

theorem whole2_no (x y : Int) (w : World) (f1 : Flo x) (f2 : Flo y) (h : ¬ Fits2 x y) :
    Calls Try.prog 121 #[.complex .f64 (fl x) (fl y), .float .f64 4728779608739020800] w fun e w' => e = .returned (.tuple #[.agg #[.int .i64 0, .int .i64 0], .int .i64 2]) ∧ Below w.heap.size w w' := by
  unfold Fits2 at h
  by_cases h1 : x < -134217728 ∨ 134217728 < x
  · exact whole2_no1 x y w f1 f2 h1
  · exact whole2_no2 x y w f2 (by omega) (by omega)

set_option maxHeartbeats 1000000 in
theorem Contains_yes (x y r a b : Int) (v : Bool) (w : World) (h : Right x y r) (h' : Fits2 a b) (ca : ∀ w, Calls Try.prog 118 #[.agg #[.int .i64 a, .int .i64 b], .agg #[.int .i64 x, .int .i64 y], .int .i64 r] w fun e w' => e = .returned (.bool v) ∧ Below w.heap.size w w') :
    Calls Try.prog 55 #[.agg #[.complex .f64 (fl x) (fl y), .int .i64 r], .complex .f64 (fl a) (fl b)] w fun e w' => e = .returned (.tuple #[.bool v, .int .i64 0]) ∧ Below w.heap.size w w' := by
  have CA := Lib.hid ca
  clear ca
  go_enter Try.func55, Try.ntmps55
  go_wp2_with fail
  refine (read_yes x y r _ h.1 h.2.1 h.2.2).mono ?_
  rintro e w1 ⟨rfl, hb_w1⟩
  have hs_w1 := hb_w1.size
  (try simp at hs_w1)
  go_wp2_with fail
  refine (whole2_yes a b _ h').mono ?_
  rintro e w2 ⟨rfl, hb_w2⟩
  have hs_w2 := hb_w2.size
  (try simp at hs_w2)
  have hz_w2_w1 : w1.heap.size < w2.heap.size := (by have hs := hb_w2.size; (try simp at hs); omega)
  have hy_w2_w1 : w1.heap.size < w2.heap.size + 1 := (by omega)
  have hx_w2_w1 : w1.heap.size < w2.heap.size + 1 + 1 := (by omega)
  have hc_w2_w1 := fun o => hb_w2.cell (p := ⟨w1.heap.size, o, none⟩) (by first | omega | (simp; done) | (simp; omega))
  have hf_w2_w1 := fun o => hb_w2.frozen (p := ⟨w1.heap.size, o, none⟩) (by first | omega | (simp; done) | (simp; omega))
  go_wp2_with fail
  refine (CA.out _).mono ?_
  rintro e w3 ⟨rfl, hb_w3⟩
  have hs_w3 := hb_w3.size
  (try simp at hs_w3)
  go_wp2
  go_ret2
  exact ⟨rfl, (by repeat' (first | (with_reducible exact Below.refl _ _) | (with_reducible assumption) | (with_reducible refine bl_alloc ?_ _) | (with_reducible refine bl_drew ?_) | (with_reducible refine bl_drewN ?_) | (with_reducible refine bl_setCell ?_ ?_ _) | (with_reducible refine bl_call ?_ (by with_reducible assumption)) | omega | (simp; done) | (simp; omega)))⟩

set_option maxHeartbeats 1000000 in
theorem Contains_no2 (x y r a b : Int) (w : World) (h : Right x y r) (f1 : Flo a) (f2 : Flo b) (h' : ¬ Fits2 a b) :
    Calls Try.prog 55 #[.agg #[.complex .f64 (fl x) (fl y), .int .i64 r], .complex .f64 (fl a) (fl b)] w fun e w' => e = .returned (.tuple #[.bool false, .int .i64 2]) ∧ Below w.heap.size w w' := by
  go_enter Try.func55, Try.ntmps55
  go_wp2_with fail
  refine (read_yes x y r _ h.1 h.2.1 h.2.2).mono ?_
  rintro e w1 ⟨rfl, hb_w1⟩
  have hs_w1 := hb_w1.size
  (try simp at hs_w1)
  go_wp2_with fail
  refine (whole2_no a b _ f1 f2 h').mono ?_
  rintro e w2 ⟨rfl, hb_w2⟩
  have hs_w2 := hb_w2.size
  (try simp at hs_w2)
  go_wp2
  go_ret2
  exact ⟨rfl, (by repeat' (first | (with_reducible exact Below.refl _ _) | (with_reducible assumption) | (with_reducible refine bl_alloc ?_ _) | (with_reducible refine bl_drew ?_) | (with_reducible refine bl_drewN ?_) | (with_reducible refine bl_setCell ?_ ?_ _) | (with_reducible refine bl_call ?_ (by with_reducible assumption)) | omega | (simp; done) | (simp; omega)))⟩

set_option maxHeartbeats 1000000 in
theorem Contains_no1 (x y r : Int) (z : Value) (w : World) (f1 : Flo x) (f2 : Flo y) (h : ¬ Right x y r) :
    Calls Try.prog 55 #[.agg #[.complex .f64 (fl x) (fl y), .int .i64 r], z] w fun e w' => e = .returned (.tuple #[.bool false, .int .i64 2]) ∧ Below w.heap.size w w' := by
  have R : Hid (∀ w, ∃ a b, Calls Try.prog 119 #[.agg #[.complex .f64 (fl x) (fl y), .int .i64 r]] w fun e w' => e = .returned (.tuple #[.agg #[.int .i64 a, .int .i64 b, .int .i64 r], .int .i64 2]) ∧ Below w.heap.size w w') := Lib.hid fun w => read_no x y r w f1 f2 h
  go_enter Try.func55, Try.ntmps55
  go_wp2_with fail
  obtain ⟨a, b, hr⟩ := R.out _
  refine hr.mono ?_
  clear hr
  rintro e w1 ⟨rfl, hb1⟩
  have hs_w1 := hb1.size
  (try simp at hs_w1)
  have hz_w1_w : w.heap.size < w1.heap.size := (by have hs := hb1.size; (try simp at hs); omega)
  have hy_w1_w : w.heap.size < w1.heap.size + 1 := (by omega)
  have hx_w1_w : w.heap.size < w1.heap.size + 1 + 1 := (by omega)
  have hc_w1_w := fun o => hb1.cell (p := ⟨w.heap.size, o, none⟩) (by first | omega | (simp; done) | (simp; omega))
  have hf_w1_w := fun o => hb1.frozen (p := ⟨w.heap.size, o, none⟩) (by first | omega | (simp; done) | (simp; omega))
  go_wp2
  go_ret2
  exact ⟨rfl, (by repeat' (first | (with_reducible exact Below.refl _ _) | (with_reducible assumption) | (with_reducible refine bl_alloc ?_ _) | (with_reducible refine bl_drew ?_) | (with_reducible refine bl_drewN ?_) | (with_reducible refine bl_setCell ?_ ?_ _) | (with_reducible refine bl_call ?_ (by with_reducible assumption)) | omega | (simp; done) | (simp; omega)))⟩

set_option maxHeartbeats 1000000 in
theorem distance_any (a b r c d s : Int) (w : World) (h1 : Sm (a - c)) (h2 : Sm (b - d)) (_h3 : Sm a) (_h4 : Sm b) (_h5 : Sm c) (_h6 : Sm d) :
    Calls Try.prog 122 #[.agg #[.int .i64 a, .int .i64 b, .int .i64 r], .agg #[.int .i64 c, .int .i64 d, .int .i64 s]] w fun e w' => e = .returned (.int .i64 ((a - c) * (a - c) + (b - d) * (b - d))) ∧ Below w.heap.size w w' := by
  have q1 := h1.mul h1
  have q2 := h2.mul h2
  unfold Sm at h1 h2
  go_enter Try.func122, Try.ntmps122
  go_wp2_with fail
  refine calm_all (by kernel_rfl) (by kernel_rfl) fun hG => ?_
  have hg_w := hG (w.heap.size) (by first | omega | (simp; done) | (simp; omega))
  have hg_wp1 := hG (w.heap.size + 1) (by first | omega | (simp; done) | (simp; omega))
  clear hG
  repeat (go_big_quiet_step (first | fail))
  refine wpQuiet_nil ?_
  intro w1 hb_w1
  clear hg_w hg_wp1
  have hs_w1 := hb_w1.size
  (try simp at hs_w1)
  have hz_w1_w : w.heap.size < w1.heap.size := (by have hs := hb_w1.size; (try simp at hs); omega)
  have hy_w1_w : w.heap.size < w1.heap.size + 1 := (by omega)
  have hx_w1_w : w.heap.size < w1.heap.size + 1 + 1 := (by omega)
  have hc_w1_w := fun o => hb_w1.cell (p := ⟨w.heap.size, o, none⟩) (by first | omega | (simp; done) | (simp; omega))
  have hf_w1_w := fun o => hb_w1.frozen (p := ⟨w.heap.size, o, none⟩) (by first | omega | (simp; done) | (simp; omega))
  have hz_w1_wp1 : w.heap.size + 1 < w1.heap.size := (by have hs := hb_w1.size; (try simp at hs); omega)
  have hy_w1_wp1 : w.heap.size + 1 < w1.heap.size + 1 := (by omega)
  have hx_w1_wp1 : w.heap.size + 1 < w1.heap.size + 1 + 1 := (by omega)
  have hc_w1_wp1 := fun o => hb_w1.cell (p := ⟨w.heap.size + 1, o, none⟩) (by first | omega | (simp; done) | (simp; omega))
  have hf_w1_wp1 := fun o => hb_w1.frozen (p := ⟨w.heap.size + 1, o, none⟩) (by first | omega | (simp; done) | (simp; omega))
  go_wp2
  go_ret
  exact ⟨rfl, (by repeat' (first | (with_reducible exact Below.refl _ _) | (with_reducible assumption) | (with_reducible refine bl_alloc ?_ _) | (with_reducible refine bl_drew ?_) | (with_reducible refine bl_drewN ?_) | (with_reducible refine bl_setCell ?_ ?_ _) | (with_reducible refine bl_call ?_ (by with_reducible assumption)) | omega | (simp; done) | (simp; omega)))⟩

theorem apB_pos {a b c d m : Int} (hm : 0 ≤ m) : apB a b c d m = decide ((a - c) * (a - c) + (b - d) * (b - d) ≤ m * m) := by unfold apB; simp [hm]
theorem sq_sym (a c : Int) : (a - c) * (a - c) = (c - a) * (c - a) := by
  rw [show c - a = -(a - c) by omega, Int.neg_mul_neg]

set_option maxHeartbeats 1000000 in
theorem rContains_any (x y r a b : Int) (w : World) (h : Right x y r) (h' : Fits2 a b) :
    Calls Try.prog 57 #[.agg #[.int .i64 x, .int .i64 y, .int .i64 r], .int .i64 a, .int .i64 b] w fun e w' => e = .returned (.bool (apB a b x y r)) ∧ Below w.heap.size w w' := by
  rw [apB_pos h.2.1, sq_sym a x, sq_sym b y]
  obtain ⟨⟨h1, h2, h3, h4⟩, r0, r1⟩ := h
  obtain ⟨h5, h6, h7, h8⟩ := h'
  have rr := mul_bd r0 r1 r0 r1
  have D := Lib.hid (fun w => distance_any x y r a b 0 w (.of (by omega) (by omega)) (.of (by omega) (by omega)) (.of (by omega) (by omega)) (.of (by omega) (by omega)) (.of (by omega) (by omega)) (.of (by omega) (by omega)))
  generalize (x - a) * (x - a) + (y - b) * (y - b) = S at *
  go_enter Try.func57, Try.ntmps57
  go_wp2_with fail
  refine calm_all (by kernel_rfl) (by kernel_rfl) fun hG => ?_
  have hg_w := hG (w.heap.size) (by first | omega | (simp; done) | (simp; omega))
  clear hG
  repeat (go_big_quiet_step (first | (go_at_call 122; with_reducible exact calm_call D.out)))
  refine wpQuiet_nil ?_
  intro w1 hb_w1
  clear hg_w
  have hs_w1 := hb_w1.size
  (try simp at hs_w1)
  have hz_w1_w : w.heap.size < w1.heap.size := (by have hs := hb_w1.size; (try simp at hs); omega)
  have hy_w1_w : w.heap.size < w1.heap.size + 1 := (by omega)
  have hx_w1_w : w.heap.size < w1.heap.size + 1 + 1 := (by omega)
  have hc_w1_w := fun o => hb_w1.cell (p := ⟨w.heap.size, o, none⟩) (by first | omega | (simp; done) | (simp; omega))
  have hf_w1_w := fun o => hb_w1.frozen (p := ⟨w.heap.size, o, none⟩) (by first | omega | (simp; done) | (simp; omega))
  go_wp2
  go_ret
  exact ⟨rfl, (by repeat' (first | (with_reducible exact Below.refl _ _) | (with_reducible assumption) | (with_reducible refine bl_alloc ?_ _) | (with_reducible refine bl_drew ?_) | (with_reducible refine bl_drewN ?_) | (with_reducible refine bl_setCell ?_ ?_ _) | (with_reducible refine bl_call ?_ (by with_reducible assumption)) | omega | (simp; done) | (simp; omega)))⟩

set_option maxHeartbeats 1000000 in
theorem rMeets_any (x y r x' y' r' : Int) (w : World) (h : Right x y r) (h' : Right x' y' r') :
    Calls Try.prog 61 #[.agg #[.int .i64 x, .int .i64 y, .int .i64 r], .agg #[.int .i64 x', .int .i64 y', .int .i64 r']] w fun e w' => e = .returned (.bool (apB x y x' y' (r + r'))) ∧ Below w.heap.size w w' := by
  rw [apB_pos (by have := h.2.1; have := h'.2.1; omega)]
  obtain ⟨⟨h1, h2, h3, h4⟩, r0, r1⟩ := h
  obtain ⟨⟨h5, h6, h7, h8⟩, s0, s1⟩ := h'
  have rr := mul_bd (a := r + r') (b := r + r') (A := 134217728) (B := 134217728) (by omega) (by omega) (by omega) (by omega)
  have D := Lib.hid (fun w => distance_any x y r x' y' r' w (.of (by omega) (by omega)) (.of (by omega) (by omega)) (.of (by omega) (by omega)) (.of (by omega) (by omega)) (.of (by omega) (by omega)) (.of (by omega) (by omega)))
  generalize (x - x') * (x - x') + (y - y') * (y - y') = S at *
  go_enter Try.func61, Try.ntmps61
  go_wp2_with fail
  refine calm_all (by kernel_rfl) (by kernel_rfl) fun hG => ?_
  have hg_w := hG (w.heap.size) (by first | omega | (simp; done) | (simp; omega))
  have hg_wp1 := hG (w.heap.size + 1) (by first | omega | (simp; done) | (simp; omega))
  clear hG
  repeat (go_big_quiet_step (first | (go_at_call 122; with_reducible exact calm_call D.out)))
  refine wpQuiet_nil ?_
  intro w1 hb_w1
  clear hg_w hg_wp1
  have hs_w1 := hb_w1.size
  (try simp at hs_w1)
  have hz_w1_w : w.heap.size < w1.heap.size := (by have hs := hb_w1.size; (try simp at hs); omega)
  have hy_w1_w : w.heap.size < w1.heap.size + 1 := (by omega)
  have hx_w1_w : w.heap.size < w1.heap.size + 1 + 1 := (by omega)
  have hc_w1_w := fun o => hb_w1.cell (p := ⟨w.heap.size, o, none⟩) (by first | omega | (simp; done) | (simp; omega))
  have hf_w1_w := fun o => hb_w1.frozen (p := ⟨w.heap.size, o, none⟩) (by first | omega | (simp; done) | (simp; omega))
  have hz_w1_wp1 : w.heap.size + 1 < w1.heap.size := (by have hs := hb_w1.size; (try simp at hs); omega)
  have hy_w1_wp1 : w.heap.size + 1 < w1.heap.size + 1 := (by omega)
  have hx_w1_wp1 : w.heap.size + 1 < w1.heap.size + 1 + 1 := (by omega)
  have hc_w1_wp1 := fun o => hb_w1.cell (p := ⟨w.heap.size + 1, o, none⟩) (by first | omega | (simp; done) | (simp; omega))
  have hf_w1_wp1 := fun o => hb_w1.frozen (p := ⟨w.heap.size + 1, o, none⟩) (by first | omega | (simp; done) | (simp; omega))
  go_wp2
  go_ret
  exact ⟨rfl, (by repeat' (first | (with_reducible exact Below.refl _ _) | (with_reducible assumption) | (with_reducible refine bl_alloc ?_ _) | (with_reducible refine bl_drew ?_) | (with_reducible refine bl_drewN ?_) | (with_reducible refine bl_setCell ?_ ?_ _) | (with_reducible refine bl_call ?_ (by with_reducible assumption)) | omega | (simp; done) | (simp; omega)))⟩

set_option maxHeartbeats 1000000 in
theorem rInside_any (x y r x' y' r' : Int) (w : World) (h : Right x y r) (h' : Right x' y' r') :
    Calls Try.prog 62 #[.agg #[.int .i64 x, .int .i64 y, .int .i64 r], .agg #[.int .i64 x', .int .i64 y', .int .i64 r']] w fun e w' => e = .returned (.bool (apB x y x' y' (r' - r))) ∧ Below w.heap.size w w' := by
  by_cases c : r ≤ r'
  · rw [apB_pos (by omega)]
    obtain ⟨⟨h1, h2, h3, h4⟩, r0, r1⟩ := h
    obtain ⟨⟨h5, h6, h7, h8⟩, s0, s1⟩ := h'
    have rr := mul_bd (a := r' - r) (b := r' - r) (A := 134217728) (B := 134217728) (by omega) (by omega) (by omega) (by omega)
    have D := Lib.hid (fun w => distance_any x y r x' y' r' w (.of (by omega) (by omega)) (.of (by omega) (by omega)) (.of (by omega) (by omega)) (.of (by omega) (by omega)) (.of (by omega) (by omega)) (.of (by omega) (by omega)))
    generalize (x - x') * (x - x') + (y - y') * (y - y') = S at *
    go_enter Try.func62, Try.ntmps62
    go_wp2_with fail
    refine calm_all (by kernel_rfl) (by kernel_rfl) fun hG => ?_
    have hg_w := hG (w.heap.size) (by first | omega | (simp; done) | (simp; omega))
    have hg_wp1 := hG (w.heap.size + 1) (by first | omega | (simp; done) | (simp; omega))
    clear hG
    repeat (go_big_quiet_step (first | (go_at_call 122; with_reducible exact calm_call D.out)))
    refine wpQuiet_nil ?_
    intro w1 hb_w1
    clear hg_w hg_wp1
    have hs_w1 := hb_w1.size
    (try simp at hs_w1)
    have hz_w1_w : w.heap.size < w1.heap.size := (by have hs := hb_w1.size; (try simp at hs); omega)
    have hy_w1_w : w.heap.size < w1.heap.size + 1 := (by omega)
    have hx_w1_w : w.heap.size < w1.heap.size + 1 + 1 := (by omega)
    have hc_w1_w := fun o => hb_w1.cell (p := ⟨w.heap.size, o, none⟩) (by first | omega | (simp; done) | (simp; omega))
    have hf_w1_w := fun o => hb_w1.frozen (p := ⟨w.heap.size, o, none⟩) (by first | omega | (simp; done) | (simp; omega))
    have hz_w1_wp1 : w.heap.size + 1 < w1.heap.size := (by have hs := hb_w1.size; (try simp at hs); omega)
    have hy_w1_wp1 : w.heap.size + 1 < w1.heap.size + 1 := (by omega)
    have hx_w1_wp1 : w.heap.size + 1 < w1.heap.size + 1 + 1 := (by omega)
    have hc_w1_wp1 := fun o => hb_w1.cell (p := ⟨w.heap.size + 1, o, none⟩) (by first | omega | (simp; done) | (simp; omega))
    have hf_w1_wp1 := fun o => hb_w1.frozen (p := ⟨w.heap.size + 1, o, none⟩) (by first | omega | (simp; done) | (simp; omega))
    go_wp2
    go_ret
    exact ⟨rfl, (by repeat' (first | (with_reducible exact Below.refl _ _) | (with_reducible assumption) | (with_reducible refine bl_alloc ?_ _) | (with_reducible refine bl_drew ?_) | (with_reducible refine bl_drewN ?_) | (with_reducible refine bl_setCell ?_ ?_ _) | (with_reducible refine bl_call ?_ (by with_reducible assumption)) | omega | (simp; done) | (simp; omega)))⟩
  · rw [show apB x y x' y' (r' - r) = false from by unfold apB; simp; omega]
    have c' : r' < r := by omega
    have c2 : decide (r ≤ r') = false := decide_eq_false c
    clear c
    go_enter Try.func62, Try.ntmps62
    go_wp2_with fail
    refine calm_all (by kernel_rfl) (by kernel_rfl) fun hG => ?_
    have hg_w := hG (w.heap.size) (by first | omega | (simp; done) | (simp; omega))
    have hg_wp1 := hG (w.heap.size + 1) (by first | omega | (simp; done) | (simp; omega))
    clear hG
    repeat (go_big_quiet_step (first | fail))
    refine wpQuiet_nil ?_
    intro w1 hb_w1
    clear hg_w hg_wp1
    have hs_w1 := hb_w1.size
    (try simp at hs_w1)
    have hz_w1_w : w.heap.size < w1.heap.size := (by have hs := hb_w1.size; (try simp at hs); omega)
    have hy_w1_w : w.heap.size < w1.heap.size + 1 := (by omega)
    have hx_w1_w : w.heap.size < w1.heap.size + 1 + 1 := (by omega)
    have hc_w1_w := fun o => hb_w1.cell (p := ⟨w.heap.size, o, none⟩) (by first | omega | (simp; done) | (simp; omega))
    have hf_w1_w := fun o => hb_w1.frozen (p := ⟨w.heap.size, o, none⟩) (by first | omega | (simp; done) | (simp; omega))
    have hz_w1_wp1 : w.heap.size + 1 < w1.heap.size := (by have hs := hb_w1.size; (try simp at hs); omega)
    have hy_w1_wp1 : w.heap.size + 1 < w1.heap.size + 1 := (by omega)
    have hx_w1_wp1 : w.heap.size + 1 < w1.heap.size + 1 + 1 := (by omega)
    have hc_w1_wp1 := fun o => hb_w1.cell (p := ⟨w.heap.size + 1, o, none⟩) (by first | omega | (simp; done) | (simp; omega))
    have hf_w1_wp1 := fun o => hb_w1.frozen (p := ⟨w.heap.size + 1, o, none⟩) (by first | omega | (simp; done) | (simp; omega))
    go_wp2
    go_ret
    exact ⟨rfl, (by repeat' (first | (with_reducible exact Below.refl _ _) | (with_reducible assumption) | (with_reducible refine bl_alloc ?_ _) | (with_reducible refine bl_drew ?_) | (with_reducible refine bl_drewN ?_) | (with_reducible refine bl_setCell ?_ ?_ _) | (with_reducible refine bl_call ?_ (by with_reducible assumption)) | omega | (simp; done) | (simp; omega)))⟩
end Go.Proofs.Ytjgmjnjpgdadhaa
/- The walks of the hull of two balls, of the program and of the reference. -/
namespace Go.Proofs.Ytjgmjnjpgdadhaa
open Go.RowKit

/-- The parts of the hull. -/
@[irreducible] def huC (a c : Int) : Int := (a + c + 1) / 2
@[irreducible] def huR (a b r c d s : Int) : Int := max (rtu ((huC a c - a) * (huC a c - a) + (huC b d - b) * (huC b d - b)) + r) (rtu ((huC a c - c) * (huC a c - c) + (huC b d - d) * (huC b d - d)) + s)
def hullM (a b r c d s : Int) : Res := onTwo a b r c d s (fin (huC a c) (huC b d) (huR a b r c d s) 0)

set_option maxHeartbeats 2000000 in
theorem hull1_core (a b r c d s X Y U V : Int) (w : World) (h : Right a b r) (h' : Right c d s) (hX : X = (a + c + 1) / 2) (hY : Y = (b + d + 1) / 2) (U0 : 0 ≤ U) (U1 : U ≤ 1073741825) (V0 : 0 ≤ V) (V1 : V ≤ 1073741825)
    (ua : ∀ w, Calls Try.prog 71 #[.agg #[.int .i64 (X - a), .int .i64 (Y - b)]] w fun e w' => e = .returned (.int .i64 U) ∧ Below w.heap.size w w')
    (ub : ∀ w, Calls Try.prog 71 #[.agg #[.int .i64 (X - c), .int .i64 (Y - d)]] w fun e w' => e = .returned (.int .i64 V) ∧ Below w.heap.size w w') :
    Calls Try.prog 124 #[.agg #[.int .i64 a, .int .i64 b, .int .i64 r], .agg #[.int .i64 c, .int .i64 d, .int .i64 s]] w fun e w' =>
      e = .returned (.tuple #[.agg #[.int .i64 X, .int .i64 Y, .int .i64 (max (U + r) (V + s))], .int .i64 0]) ∧ Below w.heap.size w w' := by
  have e1 := h.sh
  have e2 := h'.sh
  obtain ⟨⟨h1, h2, h3, h4⟩, r0, r1⟩ := h
  obtain ⟨⟨h5, h6, h7, h8⟩, s0, s1⟩ := h'
  have fx : ∀ w, Calls Try.prog 96 #[.int .i64 (a + c + 1), .int .i64 2] w fun e w' => e = .returned (.int .i64 X) ∧ w' = w := fun w => by rw [hX]; exact floor_any _ _ w (by omega) (by omega) (by omega) (by omega)
  have fy : ∀ w, Calls Try.prog 96 #[.int .i64 (b + d + 1), .int .i64 2] w fun e w' => e = .returned (.int .i64 Y) ∧ w' = w := fun w => by rw [hY]; exact floor_any _ _ w (by omega) (by omega) (by omega) (by omega)
  have bX : -67108864 ≤ X ∧ X ≤ 67108864 := by omega
  have bY : -67108864 ≤ Y ∧ Y ≤ 67108864 := by omega
  have CP := Lib.hid (fun w => plus_any a b c d w e1.1.sm e1.2.sm e2.1.sm e2.2.sm)
  have FX := Lib.hid fx
  have FY := Lib.hid fy
  have MA := Lib.hid (fun w => minus_any X Y a b w (.of (by omega) (by omega)) (.of (by omega) (by omega)) e1.1.sm e1.2.sm)
  have MB := Lib.hid (fun w => minus_any X Y c d w (.of (by omega) (by omega)) (.of (by omega) (by omega)) e2.1.sm e2.2.sm)
  have UA := Lib.hid ua
  have UB := Lib.hid ub
  clear fx fy ua ub hX hY e1 e2
  have wx : IntKind.i64.wrap (a + c + 1) = a + c + 1 := IntWalk.i64_in _ (by omega)
  have wy : IntKind.i64.wrap (b + d + 1) = b + d + 1 := IntWalk.i64_in _ (by omega)
  have hm : (U + r < V + s ∧ max (U + r) (V + s) = V + s) ∨ (V + s < U + r ∧ max (U + r) (V + s) = U + r) ∨ (U + r = V + s) := by omega
  rcases hm with ⟨hm, e⟩ | ⟨hm, e⟩ | hm
  · rw [e]
    clear e
    go_enter Try.func124, Try.ntmps124
    go_wp2_with fail
    refine (CP.out _).mono ?_
    rintro e w1 ⟨rfl, hb_w1⟩
    have hs_w1 := hb_w1.size
    (try simp at hs_w1)
    have hz_w1_w : w.heap.size < w1.heap.size := (by have hs := hb_w1.size; (try simp at hs); omega)
    have hy_w1_w : w.heap.size < w1.heap.size + 1 := (by omega)
    have hx_w1_w : w.heap.size < w1.heap.size + 1 + 1 := (by omega)
    have hc_w1_w := fun o => hb_w1.cell (p := ⟨w.heap.size, o, none⟩) (by first | omega | (simp; done) | (simp; omega))
    have hf_w1_w := fun o => hb_w1.frozen (p := ⟨w.heap.size, o, none⟩) (by first | omega | (simp; done) | (simp; omega))
    have hz_w1_wp1 : w.heap.size + 1 < w1.heap.size := (by have hs := hb_w1.size; (try simp at hs); omega)
    have hy_w1_wp1 : w.heap.size + 1 < w1.heap.size + 1 := (by omega)
    have hx_w1_wp1 : w.heap.size + 1 < w1.heap.size + 1 + 1 := (by omega)
    have hc_w1_wp1 := fun o => hb_w1.cell (p := ⟨w.heap.size + 1, o, none⟩) (by first | omega | (simp; done) | (simp; omega))
    have hf_w1_wp1 := fun o => hb_w1.frozen (p := ⟨w.heap.size + 1, o, none⟩) (by first | omega | (simp; done) | (simp; omega))
    have hz_w1_wp2 : w.heap.size + 1 + 1 < w1.heap.size := (by have hs := hb_w1.size; (try simp at hs); omega)
    have hy_w1_wp2 : w.heap.size + 1 + 1 < w1.heap.size + 1 := (by omega)
    have hx_w1_wp2 : w.heap.size + 1 + 1 < w1.heap.size + 1 + 1 := (by omega)
    have hc_w1_wp2 := fun o => hb_w1.cell (p := ⟨w.heap.size + 1 + 1, o, none⟩) (by first | omega | (simp; done) | (simp; omega))
    have hf_w1_wp2 := fun o => hb_w1.frozen (p := ⟨w.heap.size + 1 + 1, o, none⟩) (by first | omega | (simp; done) | (simp; omega))
    go_wp2_with fail
    refine calm_new 9 #[.int .i64 0, .int .i64 0] 83 _ rfl (by kernel_rfl) (by kernel_rfl) (fun a w => by kernel_rfl) fun hG => ?_
    have hg_w := hG (w.heap.size) (by first | omega | (simp; done) | (simp; omega))
    have hg_wp1 := hG (w.heap.size + 1) (by first | omega | (simp; done) | (simp; omega))
    have hg_wp2 := hG (w.heap.size + 1 + 1) (by first | omega | (simp; done) | (simp; omega))
    have hg_w1 := hG (w1.heap.size) (by first | omega | (simp; done) | (simp; omega))
    clear hG
    simp only [List.take_succ_cons, List.take_zero, List.drop_succ_cons, List.drop_zero]
    repeat (refine wpCalm_step (fun K hK => ?_); go_simp; first | (refine hK _ ?_; clear hK K) | (apply Exists.intro; refine ⟨fun _ => ?_, hK _ ?_⟩; (first | (go_at_call 96; first | with_reducible exact cal_same FX.out | with_reducible exact cal_same FY.out)); clear hK K))
    refine wpCalm_nil ?_
    intro B1 w2 hN
    obtain ⟨hb_w2, hlo_B1, hhi_B1, hc_B1, hf_B1⟩ := hN
    (try simp at hlo_B1)
    clear hg_w hg_wp1 hg_wp2 hg_w1
    have hs_w2 := hb_w2.size
    (try simp at hs_w2)
    have hz_w2_w : w.heap.size < w2.heap.size := (by have hs := hb_w2.size; (try simp at hs); omega)
    have hy_w2_w : w.heap.size < w2.heap.size + 1 := (by omega)
    have hx_w2_w : w.heap.size < w2.heap.size + 1 + 1 := (by omega)
    have hc_w2_w := fun o => hb_w2.cell (p := ⟨w.heap.size, o, none⟩) (by first | omega | (simp; done) | (simp; omega))
    have hf_w2_w := fun o => hb_w2.frozen (p := ⟨w.heap.size, o, none⟩) (by first | omega | (simp; done) | (simp; omega))
    have hz_w2_wp1 : w.heap.size + 1 < w2.heap.size := (by have hs := hb_w2.size; (try simp at hs); omega)
    have hy_w2_wp1 : w.heap.size + 1 < w2.heap.size + 1 := (by omega)
    have hx_w2_wp1 : w.heap.size + 1 < w2.heap.size + 1 + 1 := (by omega)
    have hc_w2_wp1 := fun o => hb_w2.cell (p := ⟨w.heap.size + 1, o, none⟩) (by first | omega | (simp; done) | (simp; omega))
    have hf_w2_wp1 := fun o => hb_w2.frozen (p := ⟨w.heap.size + 1, o, none⟩) (by first | omega | (simp; done) | (simp; omega))
    have hz_w2_wp2 : w.heap.size + 1 + 1 < w2.heap.size := (by have hs := hb_w2.size; (try simp at hs); omega)
    have hy_w2_wp2 : w.heap.size + 1 + 1 < w2.heap.size + 1 := (by omega)
    have hx_w2_wp2 : w.heap.size + 1 + 1 < w2.heap.size + 1 + 1 := (by omega)
    have hc_w2_wp2 := fun o => hb_w2.cell (p := ⟨w.heap.size + 1 + 1, o, none⟩) (by first | omega | (simp; done) | (simp; omega))
    have hf_w2_wp2 := fun o => hb_w2.frozen (p := ⟨w.heap.size + 1 + 1, o, none⟩) (by first | omega | (simp; done) | (simp; omega))
    have hz_w2_w1 : w1.heap.size < w2.heap.size := (by have hs := hb_w2.size; (try simp at hs); omega)
    have hy_w2_w1 : w1.heap.size < w2.heap.size + 1 := (by omega)
    have hx_w2_w1 : w1.heap.size < w2.heap.size + 1 + 1 := (by omega)
    have hc_w2_w1 := fun o => hb_w2.cell (p := ⟨w1.heap.size, o, none⟩) (by first | omega | (simp; done) | (simp; omega))
    have hf_w2_w1 := fun o => hb_w2.frozen (p := ⟨w1.heap.size, o, none⟩) (by first | omega | (simp; done) | (simp; omega))
    have hn_B1_w : ¬ B1 = w.heap.size := by first | omega | (simp at hlo_B1; omega)
    have hm_B1_w : ¬ w.heap.size = B1 := by first | omega | (simp at hlo_B1; omega)
    have hn_B1_wp1 : ¬ B1 = w.heap.size + 1 := by first | omega | (simp at hlo_B1; omega)
    have hm_B1_wp1 : ¬ w.heap.size + 1 = B1 := by first | omega | (simp at hlo_B1; omega)
    have hn_B1_wp2 : ¬ B1 = w.heap.size + 1 + 1 := by first | omega | (simp at hlo_B1; omega)
    have hm_B1_wp2 : ¬ w.heap.size + 1 + 1 = B1 := by first | omega | (simp at hlo_B1; omega)
    have hn_B1_w1 : ¬ B1 = w1.heap.size := by first | omega | (simp at hlo_B1; omega)
    have hm_B1_w1 : ¬ w1.heap.size = B1 := by first | omega | (simp at hlo_B1; omega)
    go_wp2_with fail
    refine calm 19 (by kernel_rfl) (by kernel_rfl) fun hG => ?_
    have hg_w := hG (w.heap.size) (by first | omega | (simp; done) | (simp; omega))
    have hg_wp1 := hG (w.heap.size + 1) (by first | omega | (simp; done) | (simp; omega))
    have hg_wp2 := hG (w.heap.size + 1 + 1) (by first | omega | (simp; done) | (simp; omega))
    have hg_xB1 := hG (B1) (by first | omega | (simp; done) | (simp; omega))
    clear hG
    simp only [List.take_succ_cons, List.take_zero, List.drop_succ_cons, List.drop_zero]
    repeat (go_big_quiet_step (first | (go_at_call 103; first | with_reducible exact calm_call MA.out | with_reducible exact calm_call MB.out) | (go_at_call 71; first | with_reducible exact calm_call UA.out | with_reducible exact calm_call UB.out)))
    refine wpQuiet_nil ?_
    intro w3 hb_w3
    clear hg_w hg_wp1 hg_wp2 hg_xB1
    have hs_w3 := hb_w3.size
    (try simp at hs_w3)
    have hz_w3_w : w.heap.size < w3.heap.size := (by have hs := hb_w3.size; (try simp at hs); omega)
    have hy_w3_w : w.heap.size < w3.heap.size + 1 := (by omega)
    have hx_w3_w : w.heap.size < w3.heap.size + 1 + 1 := (by omega)
    have hc_w3_w := fun o => hb_w3.cell (p := ⟨w.heap.size, o, none⟩) (by first | omega | (simp; done) | (simp; omega))
    have hf_w3_w := fun o => hb_w3.frozen (p := ⟨w.heap.size, o, none⟩) (by first | omega | (simp; done) | (simp; omega))
    have hz_w3_wp1 : w.heap.size + 1 < w3.heap.size := (by have hs := hb_w3.size; (try simp at hs); omega)
    have hy_w3_wp1 : w.heap.size + 1 < w3.heap.size + 1 := (by omega)
    have hx_w3_wp1 : w.heap.size + 1 < w3.heap.size + 1 + 1 := (by omega)
    have hc_w3_wp1 := fun o => hb_w3.cell (p := ⟨w.heap.size + 1, o, none⟩) (by first | omega | (simp; done) | (simp; omega))
    have hf_w3_wp1 := fun o => hb_w3.frozen (p := ⟨w.heap.size + 1, o, none⟩) (by first | omega | (simp; done) | (simp; omega))
    have hz_w3_wp2 : w.heap.size + 1 + 1 < w3.heap.size := (by have hs := hb_w3.size; (try simp at hs); omega)
    have hy_w3_wp2 : w.heap.size + 1 + 1 < w3.heap.size + 1 := (by omega)
    have hx_w3_wp2 : w.heap.size + 1 + 1 < w3.heap.size + 1 + 1 := (by omega)
    have hc_w3_wp2 := fun o => hb_w3.cell (p := ⟨w.heap.size + 1 + 1, o, none⟩) (by first | omega | (simp; done) | (simp; omega))
    have hf_w3_wp2 := fun o => hb_w3.frozen (p := ⟨w.heap.size + 1 + 1, o, none⟩) (by first | omega | (simp; done) | (simp; omega))
    have hz_w3_xB1 : B1 < w3.heap.size := (by have hs := hb_w3.size; (try simp at hs); omega)
    have hy_w3_xB1 : B1 < w3.heap.size + 1 := (by omega)
    have hx_w3_xB1 : B1 < w3.heap.size + 1 + 1 := (by omega)
    have hc_w3_xB1 := fun o => hb_w3.cell (p := ⟨B1, o, none⟩) (by first | omega | (simp; done) | (simp; omega))
    have hf_w3_xB1 := fun o => hb_w3.frozen (p := ⟨B1, o, none⟩) (by first | omega | (simp; done) | (simp; omega))
    go_wp2
    refine bodyPost_ret (by simp [results, Try.results124, go_sem, *]; first | done | rfl) rfl ?_
    exact ⟨rfl, (by repeat' (first | (with_reducible exact Below.refl _ _) | (with_reducible assumption) | (with_reducible refine bl_alloc ?_ _) | (with_reducible refine bl_drew ?_) | (with_reducible refine bl_drewN ?_) | (with_reducible refine bl_setCell ?_ ?_ _) | (with_reducible refine bl_call ?_ (by with_reducible assumption)) | omega | (simp; done) | (simp; omega)))⟩
  · rw [e]
    clear e
    go_enter Try.func124, Try.ntmps124
    go_wp2_with fail
    refine (CP.out _).mono ?_
    rintro e w1 ⟨rfl, hb_w1⟩
    have hs_w1 := hb_w1.size
    (try simp at hs_w1)
    have hz_w1_w : w.heap.size < w1.heap.size := (by have hs := hb_w1.size; (try simp at hs); omega)
    have hy_w1_w : w.heap.size < w1.heap.size + 1 := (by omega)
    have hx_w1_w : w.heap.size < w1.heap.size + 1 + 1 := (by omega)
    have hc_w1_w := fun o => hb_w1.cell (p := ⟨w.heap.size, o, none⟩) (by first | omega | (simp; done) | (simp; omega))
    have hf_w1_w := fun o => hb_w1.frozen (p := ⟨w.heap.size, o, none⟩) (by first | omega | (simp; done) | (simp; omega))
    have hz_w1_wp1 : w.heap.size + 1 < w1.heap.size := (by have hs := hb_w1.size; (try simp at hs); omega)
    have hy_w1_wp1 : w.heap.size + 1 < w1.heap.size + 1 := (by omega)
    have hx_w1_wp1 : w.heap.size + 1 < w1.heap.size + 1 + 1 := (by omega)
    have hc_w1_wp1 := fun o => hb_w1.cell (p := ⟨w.heap.size + 1, o, none⟩) (by first | omega | (simp; done) | (simp; omega))
    have hf_w1_wp1 := fun o => hb_w1.frozen (p := ⟨w.heap.size + 1, o, none⟩) (by first | omega | (simp; done) | (simp; omega))
    have hz_w1_wp2 : w.heap.size + 1 + 1 < w1.heap.size := (by have hs := hb_w1.size; (try simp at hs); omega)
    have hy_w1_wp2 : w.heap.size + 1 + 1 < w1.heap.size + 1 := (by omega)
    have hx_w1_wp2 : w.heap.size + 1 + 1 < w1.heap.size + 1 + 1 := (by omega)
    have hc_w1_wp2 := fun o => hb_w1.cell (p := ⟨w.heap.size + 1 + 1, o, none⟩) (by first | omega | (simp; done) | (simp; omega))
    have hf_w1_wp2 := fun o => hb_w1.frozen (p := ⟨w.heap.size + 1 + 1, o, none⟩) (by first | omega | (simp; done) | (simp; omega))
    go_wp2_with fail
    refine calm_new 9 #[.int .i64 0, .int .i64 0] 83 _ rfl (by kernel_rfl) (by kernel_rfl) (fun a w => by kernel_rfl) fun hG => ?_
    have hg_w := hG (w.heap.size) (by first | omega | (simp; done) | (simp; omega))
    have hg_wp1 := hG (w.heap.size + 1) (by first | omega | (simp; done) | (simp; omega))
    have hg_wp2 := hG (w.heap.size + 1 + 1) (by first | omega | (simp; done) | (simp; omega))
    have hg_w1 := hG (w1.heap.size) (by first | omega | (simp; done) | (simp; omega))
    clear hG
    simp only [List.take_succ_cons, List.take_zero, List.drop_succ_cons, List.drop_zero]
    repeat (refine wpCalm_step (fun K hK => ?_); go_simp; first | (refine hK _ ?_; clear hK K) | (apply Exists.intro; refine ⟨fun _ => ?_, hK _ ?_⟩; (first | (go_at_call 96; first | with_reducible exact cal_same FX.out | with_reducible exact cal_same FY.out)); clear hK K))
    refine wpCalm_nil ?_
    intro B1 w2 hN
    obtain ⟨hb_w2, hlo_B1, hhi_B1, hc_B1, hf_B1⟩ := hN
    (try simp at hlo_B1)
    clear hg_w hg_wp1 hg_wp2 hg_w1
    have hs_w2 := hb_w2.size
    (try simp at hs_w2)
    have hz_w2_w : w.heap.size < w2.heap.size := (by have hs := hb_w2.size; (try simp at hs); omega)
    have hy_w2_w : w.heap.size < w2.heap.size + 1 := (by omega)
    have hx_w2_w : w.heap.size < w2.heap.size + 1 + 1 := (by omega)
    have hc_w2_w := fun o => hb_w2.cell (p := ⟨w.heap.size, o, none⟩) (by first | omega | (simp; done) | (simp; omega))
    have hf_w2_w := fun o => hb_w2.frozen (p := ⟨w.heap.size, o, none⟩) (by first | omega | (simp; done) | (simp; omega))
    have hz_w2_wp1 : w.heap.size + 1 < w2.heap.size := (by have hs := hb_w2.size; (try simp at hs); omega)
    have hy_w2_wp1 : w.heap.size + 1 < w2.heap.size + 1 := (by omega)
    have hx_w2_wp1 : w.heap.size + 1 < w2.heap.size + 1 + 1 := (by omega)
    have hc_w2_wp1 := fun o => hb_w2.cell (p := ⟨w.heap.size + 1, o, none⟩) (by first | omega | (simp; done) | (simp; omega))
    have hf_w2_wp1 := fun o => hb_w2.frozen (p := ⟨w.heap.size + 1, o, none⟩) (by first | omega | (simp; done) | (simp; omega))
    have hz_w2_wp2 : w.heap.size + 1 + 1 < w2.heap.size := (by have hs := hb_w2.size; (try simp at hs); omega)
    have hy_w2_wp2 : w.heap.size + 1 + 1 < w2.heap.size + 1 := (by omega)
    have hx_w2_wp2 : w.heap.size + 1 + 1 < w2.heap.size + 1 + 1 := (by omega)
    have hc_w2_wp2 := fun o => hb_w2.cell (p := ⟨w.heap.size + 1 + 1, o, none⟩) (by first | omega | (simp; done) | (simp; omega))
    have hf_w2_wp2 := fun o => hb_w2.frozen (p := ⟨w.heap.size + 1 + 1, o, none⟩) (by first | omega | (simp; done) | (simp; omega))
    have hz_w2_w1 : w1.heap.size < w2.heap.size := (by have hs := hb_w2.size; (try simp at hs); omega)
    have hy_w2_w1 : w1.heap.size < w2.heap.size + 1 := (by omega)
    have hx_w2_w1 : w1.heap.size < w2.heap.size + 1 + 1 := (by omega)
    have hc_w2_w1 := fun o => hb_w2.cell (p := ⟨w1.heap.size, o, none⟩) (by first | omega | (simp; done) | (simp; omega))
    have hf_w2_w1 := fun o => hb_w2.frozen (p := ⟨w1.heap.size, o, none⟩) (by first | omega | (simp; done) | (simp; omega))
    have hn_B1_w : ¬ B1 = w.heap.size := by first | omega | (simp at hlo_B1; omega)
    have hm_B1_w : ¬ w.heap.size = B1 := by first | omega | (simp at hlo_B1; omega)
    have hn_B1_wp1 : ¬ B1 = w.heap.size + 1 := by first | omega | (simp at hlo_B1; omega)
    have hm_B1_wp1 : ¬ w.heap.size + 1 = B1 := by first | omega | (simp at hlo_B1; omega)
    have hn_B1_wp2 : ¬ B1 = w.heap.size + 1 + 1 := by first | omega | (simp at hlo_B1; omega)
    have hm_B1_wp2 : ¬ w.heap.size + 1 + 1 = B1 := by first | omega | (simp at hlo_B1; omega)
    have hn_B1_w1 : ¬ B1 = w1.heap.size := by first | omega | (simp at hlo_B1; omega)
    have hm_B1_w1 : ¬ w1.heap.size = B1 := by first | omega | (simp at hlo_B1; omega)
    go_wp2_with fail
    refine calm 19 (by kernel_rfl) (by kernel_rfl) fun hG => ?_
    have hg_w := hG (w.heap.size) (by first | omega | (simp; done) | (simp; omega))
    have hg_wp1 := hG (w.heap.size + 1) (by first | omega | (simp; done) | (simp; omega))
    have hg_wp2 := hG (w.heap.size + 1 + 1) (by first | omega | (simp; done) | (simp; omega))
    have hg_xB1 := hG (B1) (by first | omega | (simp; done) | (simp; omega))
    clear hG
    simp only [List.take_succ_cons, List.take_zero, List.drop_succ_cons, List.drop_zero]
    repeat (go_big_quiet_step (first | (go_at_call 103; first | with_reducible exact calm_call MA.out | with_reducible exact calm_call MB.out) | (go_at_call 71; first | with_reducible exact calm_call UA.out | with_reducible exact calm_call UB.out)))
    refine wpQuiet_nil ?_
    intro w3 hb_w3
    clear hg_w hg_wp1 hg_wp2 hg_xB1
    have hs_w3 := hb_w3.size
    (try simp at hs_w3)
    have hz_w3_w : w.heap.size < w3.heap.size := (by have hs := hb_w3.size; (try simp at hs); omega)
    have hy_w3_w : w.heap.size < w3.heap.size + 1 := (by omega)
    have hx_w3_w : w.heap.size < w3.heap.size + 1 + 1 := (by omega)
    have hc_w3_w := fun o => hb_w3.cell (p := ⟨w.heap.size, o, none⟩) (by first | omega | (simp; done) | (simp; omega))
    have hf_w3_w := fun o => hb_w3.frozen (p := ⟨w.heap.size, o, none⟩) (by first | omega | (simp; done) | (simp; omega))
    have hz_w3_wp1 : w.heap.size + 1 < w3.heap.size := (by have hs := hb_w3.size; (try simp at hs); omega)
    have hy_w3_wp1 : w.heap.size + 1 < w3.heap.size + 1 := (by omega)
    have hx_w3_wp1 : w.heap.size + 1 < w3.heap.size + 1 + 1 := (by omega)
    have hc_w3_wp1 := fun o => hb_w3.cell (p := ⟨w.heap.size + 1, o, none⟩) (by first | omega | (simp; done) | (simp; omega))
    have hf_w3_wp1 := fun o => hb_w3.frozen (p := ⟨w.heap.size + 1, o, none⟩) (by first | omega | (simp; done) | (simp; omega))
    have hz_w3_wp2 : w.heap.size + 1 + 1 < w3.heap.size := (by have hs := hb_w3.size; (try simp at hs); omega)
    have hy_w3_wp2 : w.heap.size + 1 + 1 < w3.heap.size + 1 := (by omega)
    have hx_w3_wp2 : w.heap.size + 1 + 1 < w3.heap.size + 1 + 1 := (by omega)
    have hc_w3_wp2 := fun o => hb_w3.cell (p := ⟨w.heap.size + 1 + 1, o, none⟩) (by first | omega | (simp; done) | (simp; omega))
    have hf_w3_wp2 := fun o => hb_w3.frozen (p := ⟨w.heap.size + 1 + 1, o, none⟩) (by first | omega | (simp; done) | (simp; omega))
    have hz_w3_xB1 : B1 < w3.heap.size := (by have hs := hb_w3.size; (try simp at hs); omega)
    have hy_w3_xB1 : B1 < w3.heap.size + 1 := (by omega)
    have hx_w3_xB1 : B1 < w3.heap.size + 1 + 1 := (by omega)
    have hc_w3_xB1 := fun o => hb_w3.cell (p := ⟨B1, o, none⟩) (by first | omega | (simp; done) | (simp; omega))
    have hf_w3_xB1 := fun o => hb_w3.frozen (p := ⟨B1, o, none⟩) (by first | omega | (simp; done) | (simp; omega))
    go_wp2
    refine bodyPost_ret (by simp [results, Try.results124, go_sem, *]; first | done | rfl) rfl ?_
    exact ⟨rfl, (by repeat' (first | (with_reducible exact Below.refl _ _) | (with_reducible assumption) | (with_reducible refine bl_alloc ?_ _) | (with_reducible refine bl_drew ?_) | (with_reducible refine bl_drewN ?_) | (with_reducible refine bl_setCell ?_ ?_ _) | (with_reducible refine bl_call ?_ (by with_reducible assumption)) | omega | (simp; done) | (simp; omega)))⟩
  · obtain rfl : V = U + r - s := by omega
    rw [show max (U + r) (U + r - s + s) = U + r by omega]
    have e0 : U + r - s + s = U + r := by omega
    clear hm
    go_enter Try.func124, Try.ntmps124
    go_wp2_with fail
    refine (CP.out _).mono ?_
    rintro e w1 ⟨rfl, hb_w1⟩
    have hs_w1 := hb_w1.size
    (try simp at hs_w1)
    have hz_w1_w : w.heap.size < w1.heap.size := (by have hs := hb_w1.size; (try simp at hs); omega)
    have hy_w1_w : w.heap.size < w1.heap.size + 1 := (by omega)
    have hx_w1_w : w.heap.size < w1.heap.size + 1 + 1 := (by omega)
    have hc_w1_w := fun o => hb_w1.cell (p := ⟨w.heap.size, o, none⟩) (by first | omega | (simp; done) | (simp; omega))
    have hf_w1_w := fun o => hb_w1.frozen (p := ⟨w.heap.size, o, none⟩) (by first | omega | (simp; done) | (simp; omega))
    have hz_w1_wp1 : w.heap.size + 1 < w1.heap.size := (by have hs := hb_w1.size; (try simp at hs); omega)
    have hy_w1_wp1 : w.heap.size + 1 < w1.heap.size + 1 := (by omega)
    have hx_w1_wp1 : w.heap.size + 1 < w1.heap.size + 1 + 1 := (by omega)
    have hc_w1_wp1 := fun o => hb_w1.cell (p := ⟨w.heap.size + 1, o, none⟩) (by first | omega | (simp; done) | (simp; omega))
    have hf_w1_wp1 := fun o => hb_w1.frozen (p := ⟨w.heap.size + 1, o, none⟩) (by first | omega | (simp; done) | (simp; omega))
    have hz_w1_wp2 : w.heap.size + 1 + 1 < w1.heap.size := (by have hs := hb_w1.size; (try simp at hs); omega)
    have hy_w1_wp2 : w.heap.size + 1 + 1 < w1.heap.size + 1 := (by omega)
    have hx_w1_wp2 : w.heap.size + 1 + 1 < w1.heap.size + 1 + 1 := (by omega)
    have hc_w1_wp2 := fun o => hb_w1.cell (p := ⟨w.heap.size + 1 + 1, o, none⟩) (by first | omega | (simp; done) | (simp; omega))
    have hf_w1_wp2 := fun o => hb_w1.frozen (p := ⟨w.heap.size + 1 + 1, o, none⟩) (by first | omega | (simp; done) | (simp; omega))
    go_wp2_with fail
    refine calm_new 9 #[.int .i64 0, .int .i64 0] 83 _ rfl (by kernel_rfl) (by kernel_rfl) (fun a w => by kernel_rfl) fun hG => ?_
    have hg_w := hG (w.heap.size) (by first | omega | (simp; done) | (simp; omega))
    have hg_wp1 := hG (w.heap.size + 1) (by first | omega | (simp; done) | (simp; omega))
    have hg_wp2 := hG (w.heap.size + 1 + 1) (by first | omega | (simp; done) | (simp; omega))
    have hg_w1 := hG (w1.heap.size) (by first | omega | (simp; done) | (simp; omega))
    clear hG
    simp only [List.take_succ_cons, List.take_zero, List.drop_succ_cons, List.drop_zero]
    repeat (refine wpCalm_step (fun K hK => ?_); go_simp; first | (refine hK _ ?_; clear hK K) | (apply Exists.intro; refine ⟨fun _ => ?_, hK _ ?_⟩; (first | (go_at_call 96; first | with_reducible exact cal_same FX.out | with_reducible exact cal_same FY.out)); clear hK K))
    refine wpCalm_nil ?_
    intro B1 w2 hN
    obtain ⟨hb_w2, hlo_B1, hhi_B1, hc_B1, hf_B1⟩ := hN
    (try simp at hlo_B1)
    clear hg_w hg_wp1 hg_wp2 hg_w1
    have hs_w2 := hb_w2.size
    (try simp at hs_w2)
    have hz_w2_w : w.heap.size < w2.heap.size := (by have hs := hb_w2.size; (try simp at hs); omega)
    have hy_w2_w : w.heap.size < w2.heap.size + 1 := (by omega)
    have hx_w2_w : w.heap.size < w2.heap.size + 1 + 1 := (by omega)
    have hc_w2_w := fun o => hb_w2.cell (p := ⟨w.heap.size, o, none⟩) (by first | omega | (simp; done) | (simp; omega))
    have hf_w2_w := fun o => hb_w2.frozen (p := ⟨w.heap.size, o, none⟩) (by first | omega | (simp; done) | (simp; omega))
    have hz_w2_wp1 : w.heap.size + 1 < w2.heap.size := (by have hs := hb_w2.size; (try simp at hs); omega)
    have hy_w2_wp1 : w.heap.size + 1 < w2.heap.size + 1 := (by omega)
    have hx_w2_wp1 : w.heap.size + 1 < w2.heap.size + 1 + 1 := (by omega)
    have hc_w2_wp1 := fun o => hb_w2.cell (p := ⟨w.heap.size + 1, o, none⟩) (by first | omega | (simp; done) | (simp; omega))
    have hf_w2_wp1 := fun o => hb_w2.frozen (p := ⟨w.heap.size + 1, o, none⟩) (by first | omega | (simp; done) | (simp; omega))
    have hz_w2_wp2 : w.heap.size + 1 + 1 < w2.heap.size := (by have hs := hb_w2.size; (try simp at hs); omega)
    have hy_w2_wp2 : w.heap.size + 1 + 1 < w2.heap.size + 1 := (by omega)
    have hx_w2_wp2 : w.heap.size + 1 + 1 < w2.heap.size + 1 + 1 := (by omega)
    have hc_w2_wp2 := fun o => hb_w2.cell (p := ⟨w.heap.size + 1 + 1, o, none⟩) (by first | omega | (simp; done) | (simp; omega))
    have hf_w2_wp2 := fun o => hb_w2.frozen (p := ⟨w.heap.size + 1 + 1, o, none⟩) (by first | omega | (simp; done) | (simp; omega))
    have hz_w2_w1 : w1.heap.size < w2.heap.size := (by have hs := hb_w2.size; (try simp at hs); omega)
    have hy_w2_w1 : w1.heap.size < w2.heap.size + 1 := (by omega)
    have hx_w2_w1 : w1.heap.size < w2.heap.size + 1 + 1 := (by omega)
    have hc_w2_w1 := fun o => hb_w2.cell (p := ⟨w1.heap.size, o, none⟩) (by first | omega | (simp; done) | (simp; omega))
    have hf_w2_w1 := fun o => hb_w2.frozen (p := ⟨w1.heap.size, o, none⟩) (by first | omega | (simp; done) | (simp; omega))
    have hn_B1_w : ¬ B1 = w.heap.size := by first | omega | (simp at hlo_B1; omega)
    have hm_B1_w : ¬ w.heap.size = B1 := by first | omega | (simp at hlo_B1; omega)
    have hn_B1_wp1 : ¬ B1 = w.heap.size + 1 := by first | omega | (simp at hlo_B1; omega)
    have hm_B1_wp1 : ¬ w.heap.size + 1 = B1 := by first | omega | (simp at hlo_B1; omega)
    have hn_B1_wp2 : ¬ B1 = w.heap.size + 1 + 1 := by first | omega | (simp at hlo_B1; omega)
    have hm_B1_wp2 : ¬ w.heap.size + 1 + 1 = B1 := by first | omega | (simp at hlo_B1; omega)
    have hn_B1_w1 : ¬ B1 = w1.heap.size := by first | omega | (simp at hlo_B1; omega)
    have hm_B1_w1 : ¬ w1.heap.size = B1 := by first | omega | (simp at hlo_B1; omega)
    go_wp2_with fail
    refine calm 19 (by kernel_rfl) (by kernel_rfl) fun hG => ?_
    have hg_w := hG (w.heap.size) (by first | omega | (simp; done) | (simp; omega))
    have hg_wp1 := hG (w.heap.size + 1) (by first | omega | (simp; done) | (simp; omega))
    have hg_wp2 := hG (w.heap.size + 1 + 1) (by first | omega | (simp; done) | (simp; omega))
    have hg_xB1 := hG (B1) (by first | omega | (simp; done) | (simp; omega))
    clear hG
    simp only [List.take_succ_cons, List.take_zero, List.drop_succ_cons, List.drop_zero]
    repeat (go_big_quiet_step (first | (go_at_call 103; first | with_reducible exact calm_call MA.out | with_reducible exact calm_call MB.out) | (go_at_call 71; first | with_reducible exact calm_call UA.out | with_reducible exact calm_call UB.out)))
    refine wpQuiet_nil ?_
    intro w3 hb_w3
    clear hg_w hg_wp1 hg_wp2 hg_xB1
    have hs_w3 := hb_w3.size
    (try simp at hs_w3)
    have hz_w3_w : w.heap.size < w3.heap.size := (by have hs := hb_w3.size; (try simp at hs); omega)
    have hy_w3_w : w.heap.size < w3.heap.size + 1 := (by omega)
    have hx_w3_w : w.heap.size < w3.heap.size + 1 + 1 := (by omega)
    have hc_w3_w := fun o => hb_w3.cell (p := ⟨w.heap.size, o, none⟩) (by first | omega | (simp; done) | (simp; omega))
    have hf_w3_w := fun o => hb_w3.frozen (p := ⟨w.heap.size, o, none⟩) (by first | omega | (simp; done) | (simp; omega))
    have hz_w3_wp1 : w.heap.size + 1 < w3.heap.size := (by have hs := hb_w3.size; (try simp at hs); omega)
    have hy_w3_wp1 : w.heap.size + 1 < w3.heap.size + 1 := (by omega)
    have hx_w3_wp1 : w.heap.size + 1 < w3.heap.size + 1 + 1 := (by omega)
    have hc_w3_wp1 := fun o => hb_w3.cell (p := ⟨w.heap.size + 1, o, none⟩) (by first | omega | (simp; done) | (simp; omega))
    have hf_w3_wp1 := fun o => hb_w3.frozen (p := ⟨w.heap.size + 1, o, none⟩) (by first | omega | (simp; done) | (simp; omega))
    have hz_w3_wp2 : w.heap.size + 1 + 1 < w3.heap.size := (by have hs := hb_w3.size; (try simp at hs); omega)
    have hy_w3_wp2 : w.heap.size + 1 + 1 < w3.heap.size + 1 := (by omega)
    have hx_w3_wp2 : w.heap.size + 1 + 1 < w3.heap.size + 1 + 1 := (by omega)
    have hc_w3_wp2 := fun o => hb_w3.cell (p := ⟨w.heap.size + 1 + 1, o, none⟩) (by first | omega | (simp; done) | (simp; omega))
    have hf_w3_wp2 := fun o => hb_w3.frozen (p := ⟨w.heap.size + 1 + 1, o, none⟩) (by first | omega | (simp; done) | (simp; omega))
    have hz_w3_xB1 : B1 < w3.heap.size := (by have hs := hb_w3.size; (try simp at hs); omega)
    have hy_w3_xB1 : B1 < w3.heap.size + 1 := (by omega)
    have hx_w3_xB1 : B1 < w3.heap.size + 1 + 1 := (by omega)
    have hc_w3_xB1 := fun o => hb_w3.cell (p := ⟨B1, o, none⟩) (by first | omega | (simp; done) | (simp; omega))
    have hf_w3_xB1 := fun o => hb_w3.frozen (p := ⟨B1, o, none⟩) (by first | omega | (simp; done) | (simp; omega))
    go_wp2
    refine bodyPost_ret (by simp [results, Try.results124, go_sem, *]; first | done | rfl) rfl ?_
    exact ⟨rfl, (by repeat' (first | (with_reducible exact Below.refl _ _) | (with_reducible assumption) | (with_reducible refine bl_alloc ?_ _) | (with_reducible refine bl_drew ?_) | (with_reducible refine bl_drewN ?_) | (with_reducible refine bl_setCell ?_ ?_ _) | (with_reducible refine bl_call ?_ (by with_reducible assumption)) | omega | (simp; done) | (simp; omega)))⟩
end Go.Proofs.Ytjgmjnjpgdadhaa
/- The hull of two balls: the program's public function and the reference's. -/
namespace Go.Proofs.Ytjgmjnjpgdadhaa
open Go.RowKit

theorem huC_eq (a c : Int) : huC a c = (a + c + 1) / 2 := by unfold huC; rfl
theorem huC_bd {a c : Int} (h1 : -67108864 ≤ a) (h2 : a ≤ 67108864) (h3 : -67108864 ≤ c) (h4 : c ≤ 67108864) : -67108864 ≤ huC a c ∧ huC a c ≤ 67108864 := by unfold huC; omega
theorem huC_sh {a b r c d s : Int} (h : Right a b r) (h' : Right c d s) : Sh (huC a c - a) ∧ Sh (huC b d - b) ∧ Sh (huC a c - c) ∧ Sh (huC b d - d) := by
  obtain ⟨⟨h1, h2, h3, h4⟩, _⟩ := h
  obtain ⟨⟨h5, h6, h7, h8⟩, _⟩ := h'
  have x := huC_bd h1 h2 h5 h6
  have y := huC_bd h3 h4 h7 h8
  exact ⟨⟨by omega, by omega⟩, ⟨by omega, by omega⟩, ⟨by omega, by omega⟩, ⟨by omega, by omega⟩⟩

theorem hull1_any (a b r c d s : Int) (w : World) (h : Right a b r) (h' : Right c d s) :
    Calls Try.prog 124 #[.agg #[.int .i64 a, .int .i64 b, .int .i64 r], .agg #[.int .i64 c, .int .i64 d, .int .i64 s]] w fun e w' =>
      e = .returned (.tuple #[.agg #[.int .i64 (huC a c), .int .i64 (huC b d), .int .i64 (huR a b r c d s)], .int .i64 0]) ∧ Below w.heap.size w w' := by
  obtain ⟨s1, s2, s3, s4⟩ := huC_sh h h'
  have q1 := s1.sq s2
  have q2 := s3.sq s4
  have u1 := rtu_bd q1.1 (by omega)
  have u2 := rtu_bd q2.1 (by omega)
  unfold huR
  exact hull1_core a b r c d s _ _ _ _ w h h' (huC_eq a c) (huC_eq b d) u1.1 u1.2 u2.1 u2.2 (fun w => up_any _ _ w s1 s2) (fun w => up_any _ _ w s3 s4)

set_option maxHeartbeats 1000000 in
theorem Hull_any (x y r x' y' r' : Int) (w : World) (f1 : Flo x) (f2 : Flo y) (g1 : Flo x') (g2 : Flo y') :
    Calls Try.prog 59 #[.agg #[.complex .f64 (fl x) (fl y), .int .i64 r], .agg #[.complex .f64 (fl x') (fl y'), .int .i64 r']] w fun e w' => e = .returned (out (hullM x y r x' y' r')) ∧ Below w.heap.size w w' := by
  have hd : ∀ w, Right x y r → Right x' y' r' → Does2 124 #[] x y r x' y' r' w (.tuple #[.agg #[.int .i64 (huC x x'), .int .i64 (huC y y'), .int .i64 (huR x y r x' y' r')], .int .i64 0]) := fun w h h' w1 _ => by
    rw [Array.append_empty]
    exact hull1_any x y r x' y' r' w1 h h'
  unfold hullM
  rw [out_quad]
  go_enter Try.func59, Try.ntmps59
  go_wp2_with fail
  refine (binary_any _ x y r x' y' r' _ _ _ _ _ f1 f2 g1 g2 (enters_of Try.func124 (by kernel_rfl) rfl) (hd _)).mono ?_
  rintro e w1 ⟨rfl, hb_w1⟩
  have hs_w1 := hb_w1.size
  (try simp at hs_w1)
  have hz_w1_wp2 : w.heap.size + 1 + 1 < w1.heap.size := (by have hs := hb_w1.size; (try simp at hs); omega)
  have hy_w1_wp2 : w.heap.size + 1 + 1 < w1.heap.size + 1 := (by omega)
  have hx_w1_wp2 : w.heap.size + 1 + 1 < w1.heap.size + 1 + 1 := (by omega)
  have hc_w1_wp2 := fun o => hb_w1.cell (p := ⟨w.heap.size + 1 + 1, o, none⟩) (by first | omega | (simp; done) | (simp; omega))
  have hf_w1_wp2 := fun o => hb_w1.frozen (p := ⟨w.heap.size + 1 + 1, o, none⟩) (by first | omega | (simp; done) | (simp; omega))
  rw [out_quad]
  go_wp2
  refine bodyPost_ret (by simp [results, Try.results59, go_sem, *]; first | done | rfl) rfl ?_
  exact ⟨rfl, (by repeat' (first | (with_reducible exact Below.refl _ _) | (with_reducible assumption) | (with_reducible refine bl_alloc ?_ _) | (with_reducible refine bl_drew ?_) | (with_reducible refine bl_drewN ?_) | (with_reducible refine bl_setCell ?_ ?_ _) | (with_reducible refine bl_call ?_ (by with_reducible assumption)) | omega | (simp; done) | (simp; omega)))⟩

set_option maxHeartbeats 2000000 in
theorem rHull_core (a b r c d s X Y S T U V : Int) (res : Res) (w : World) (h : Right a b r) (h' : Right c d s) (hX : X = (a + c + 1) / 2) (hY : Y = (b + d + 1) / 2) (U0 : 0 ≤ U) (U1 : U ≤ 1073741825) (V0 : 0 ≤ V) (V1 : V ≤ 1073741825)
    (da : ∀ w, Calls Try.prog 122 #[.agg #[.int .i64 X, .int .i64 Y, .int .i64 0], .agg #[.int .i64 a, .int .i64 b, .int .i64 r]] w fun e w' => e = .returned (.int .i64 S) ∧ Below w.heap.size w w')
    (db : ∀ w, Calls Try.prog 122 #[.agg #[.int .i64 X, .int .i64 Y, .int .i64 0], .agg #[.int .i64 c, .int .i64 d, .int .i64 s]] w fun e w' => e = .returned (.int .i64 T) ∧ Below w.heap.size w w')
    (ua : ∀ w, Calls Try.prog 115 #[.int .i64 S] w fun e w' => e = .returned (.int .i64 U) ∧ w' = w)
    (ub : ∀ w, Calls Try.prog 115 #[.int .i64 T] w fun e w' => e = .returned (.int .i64 V) ∧ w' = w)
    (ck : ∀ w, Calls Try.prog 77 #[.agg #[.int .i64 X, .int .i64 Y, .int .i64 (max (U + r) (V + s))]] w fun e w' => e = .returned (outR res) ∧ Below w.heap.size w w') :
    Calls Try.prog 60 #[.agg #[.int .i64 a, .int .i64 b, .int .i64 r], .agg #[.int .i64 c, .int .i64 d, .int .i64 s]] w fun e w' => e = .returned (outR res) ∧ Below w.heap.size w w' := by
  obtain ⟨⟨h1, h2, h3, h4⟩, r0, r1⟩ := h
  obtain ⟨⟨h5, h6, h7, h8⟩, s0, s1⟩ := h'
  have fx : ∀ w, ∃ z, Calls Try.prog 73 #[.int .i64 (a + c), .int .i64 2] w fun e w' => e = .returned (.tuple #[.int .i64 X, .bool z]) ∧ w' = w := fun w => ⟨_, by
    have := bRounded_any (a + c) 2 w (by omega) (by omega) (by omega) (by omega)
    rw [show (2 * (a + c) + 2) / (2 * 2) = X by omega] at this
    exact this⟩
  have fy : ∀ w, ∃ z, Calls Try.prog 73 #[.int .i64 (b + d), .int .i64 2] w fun e w' => e = .returned (.tuple #[.int .i64 Y, .bool z]) ∧ w' = w := fun w => ⟨_, by
    have := bRounded_any (b + d) 2 w (by omega) (by omega) (by omega) (by omega)
    rw [show (2 * (b + d) + 2) / (2 * 2) = Y by omega] at this
    exact this⟩
  have bX : -67108864 ≤ X ∧ X ≤ 67108864 := by omega
  have bY : -67108864 ≤ Y ∧ Y ≤ 67108864 := by omega
  rw [outR_quad] at ck ⊢
  have FX := Lib.hid fx
  have FY := Lib.hid fy
  have DA := Lib.hid da
  have DB := Lib.hid db
  have UA := Lib.hid ua
  have UB := Lib.hid ub
  clear fx fy ua ub da db hX hY
  have hm : ∃ M, max (U + r) (V + s) = M ∧ ((U + r < V + s ∧ M = V + s) ∨ (V + s < U + r ∧ M = U + r) ∨ (U + r = V + s ∧ M = U + r)) := ⟨_, rfl, by omega⟩
  obtain ⟨M, hM, hm⟩ := hm
  rw [hM] at ck
  clear hM
  rcases hm with ⟨hm, rfl⟩ | ⟨hm, rfl⟩ | ⟨hm, rfl⟩
  · have CK := Lib.hid ck
    clear ck
    go_enter Try.func60, Try.ntmps60
    go_wp2_with fail
    obtain ⟨z1, hz⟩ := FX.out _
    refine hz.mono ?_
    clear hz
    rintro e w' ⟨rfl, rfl⟩
    go_wp2_with fail
    obtain ⟨z2, hz⟩ := FY.out _
    refine hz.mono ?_
    clear hz
    rintro e w' ⟨rfl, rfl⟩
    go_wp2_with fail
    refine calm 16 (by kernel_rfl) (by kernel_rfl) fun hG => ?_
    have hg_w := hG (w.heap.size) (by first | omega | (simp; done) | (simp; omega))
    have hg_wp1 := hG (w.heap.size + 1) (by first | omega | (simp; done) | (simp; omega))
    have hg_wp2 := hG (w.heap.size + 1 + 1) (by first | omega | (simp; done) | (simp; omega))
    have hg_wp3 := hG (w.heap.size + 1 + 1 + 1) (by first | omega | (simp; done) | (simp; omega))
    clear hG
    simp only [List.take_succ_cons, List.take_zero, List.drop_succ_cons, List.drop_zero]
    repeat (go_big_quiet_step (first | (go_at_call 122; first | with_reducible exact calm_call DA.out | with_reducible exact calm_call DB.out) | (go_at_call 115; first | with_reducible exact calm_same UA.out | with_reducible exact calm_same UB.out)))
    refine wpQuiet_nil ?_
    intro w2 hb_w2
    clear hg_w hg_wp1 hg_wp2 hg_wp3
    have hs_w2 := hb_w2.size
    (try simp at hs_w2)
    have hz_w2_w : w.heap.size < w2.heap.size := (by have hs := hb_w2.size; (try simp at hs); omega)
    have hy_w2_w : w.heap.size < w2.heap.size + 1 := (by omega)
    have hx_w2_w : w.heap.size < w2.heap.size + 1 + 1 := (by omega)
    have hc_w2_w := fun o => hb_w2.cell (p := ⟨w.heap.size, o, none⟩) (by first | omega | (simp; done) | (simp; omega))
    have hf_w2_w := fun o => hb_w2.frozen (p := ⟨w.heap.size, o, none⟩) (by first | omega | (simp; done) | (simp; omega))
    have hz_w2_wp1 : w.heap.size + 1 < w2.heap.size := (by have hs := hb_w2.size; (try simp at hs); omega)
    have hy_w2_wp1 : w.heap.size + 1 < w2.heap.size + 1 := (by omega)
    have hx_w2_wp1 : w.heap.size + 1 < w2.heap.size + 1 + 1 := (by omega)
    have hc_w2_wp1 := fun o => hb_w2.cell (p := ⟨w.heap.size + 1, o, none⟩) (by first | omega | (simp; done) | (simp; omega))
    have hf_w2_wp1 := fun o => hb_w2.frozen (p := ⟨w.heap.size + 1, o, none⟩) (by first | omega | (simp; done) | (simp; omega))
    have hz_w2_wp2 : w.heap.size + 1 + 1 < w2.heap.size := (by have hs := hb_w2.size; (try simp at hs); omega)
    have hy_w2_wp2 : w.heap.size + 1 + 1 < w2.heap.size + 1 := (by omega)
    have hx_w2_wp2 : w.heap.size + 1 + 1 < w2.heap.size + 1 + 1 := (by omega)
    have hc_w2_wp2 := fun o => hb_w2.cell (p := ⟨w.heap.size + 1 + 1, o, none⟩) (by first | omega | (simp; done) | (simp; omega))
    have hf_w2_wp2 := fun o => hb_w2.frozen (p := ⟨w.heap.size + 1 + 1, o, none⟩) (by first | omega | (simp; done) | (simp; omega))
    have hz_w2_wp3 : w.heap.size + 1 + 1 + 1 < w2.heap.size := (by have hs := hb_w2.size; (try simp at hs); omega)
    have hy_w2_wp3 : w.heap.size + 1 + 1 + 1 < w2.heap.size + 1 := (by omega)
    have hx_w2_wp3 : w.heap.size + 1 + 1 + 1 < w2.heap.size + 1 + 1 := (by omega)
    have hc_w2_wp3 := fun o => hb_w2.cell (p := ⟨w.heap.size + 1 + 1 + 1, o, none⟩) (by first | omega | (simp; done) | (simp; omega))
    have hf_w2_wp3 := fun o => hb_w2.frozen (p := ⟨w.heap.size + 1 + 1 + 1, o, none⟩) (by first | omega | (simp; done) | (simp; omega))
    go_wp2_with fail
    refine (CK.out _).mono ?_
    rintro e w3 ⟨rfl, hb_w3⟩
    have hs_w3 := hb_w3.size
    (try simp at hs_w3)
    have hz_w3_w : w.heap.size < w3.heap.size := (by have hs := hb_w3.size; (try simp at hs); omega)
    have hy_w3_w : w.heap.size < w3.heap.size + 1 := (by omega)
    have hx_w3_w : w.heap.size < w3.heap.size + 1 + 1 := (by omega)
    have hc_w3_w := fun o => hb_w3.cell (p := ⟨w.heap.size, o, none⟩) (by first | omega | (simp; done) | (simp; omega))
    have hf_w3_w := fun o => hb_w3.frozen (p := ⟨w.heap.size, o, none⟩) (by first | omega | (simp; done) | (simp; omega))
    have hz_w3_wp1 : w.heap.size + 1 < w3.heap.size := (by have hs := hb_w3.size; (try simp at hs); omega)
    have hy_w3_wp1 : w.heap.size + 1 < w3.heap.size + 1 := (by omega)
    have hx_w3_wp1 : w.heap.size + 1 < w3.heap.size + 1 + 1 := (by omega)
    have hc_w3_wp1 := fun o => hb_w3.cell (p := ⟨w.heap.size + 1, o, none⟩) (by first | omega | (simp; done) | (simp; omega))
    have hf_w3_wp1 := fun o => hb_w3.frozen (p := ⟨w.heap.size + 1, o, none⟩) (by first | omega | (simp; done) | (simp; omega))
    have hz_w3_wp2 : w.heap.size + 1 + 1 < w3.heap.size := (by have hs := hb_w3.size; (try simp at hs); omega)
    have hy_w3_wp2 : w.heap.size + 1 + 1 < w3.heap.size + 1 := (by omega)
    have hx_w3_wp2 : w.heap.size + 1 + 1 < w3.heap.size + 1 + 1 := (by omega)
    have hc_w3_wp2 := fun o => hb_w3.cell (p := ⟨w.heap.size + 1 + 1, o, none⟩) (by first | omega | (simp; done) | (simp; omega))
    have hf_w3_wp2 := fun o => hb_w3.frozen (p := ⟨w.heap.size + 1 + 1, o, none⟩) (by first | omega | (simp; done) | (simp; omega))
    go_wp2
    refine bodyPost_ret (by simp [results, Try.results60, go_sem, *]; first | done | rfl) rfl ?_
    exact ⟨rfl, (by repeat' (first | (with_reducible exact Below.refl _ _) | (with_reducible assumption) | (with_reducible refine bl_alloc ?_ _) | (with_reducible refine bl_drew ?_) | (with_reducible refine bl_drewN ?_) | (with_reducible refine bl_setCell ?_ ?_ _) | (with_reducible refine bl_call ?_ (by with_reducible assumption)) | omega | (simp; done) | (simp; omega)))⟩
  · have CK := Lib.hid ck
    clear ck
    go_enter Try.func60, Try.ntmps60
    go_wp2_with fail
    obtain ⟨z1, hz⟩ := FX.out _
    refine hz.mono ?_
    clear hz
    rintro e w' ⟨rfl, rfl⟩
    go_wp2_with fail
    obtain ⟨z2, hz⟩ := FY.out _
    refine hz.mono ?_
    clear hz
    rintro e w' ⟨rfl, rfl⟩
    go_wp2_with fail
    refine calm 16 (by kernel_rfl) (by kernel_rfl) fun hG => ?_
    have hg_w := hG (w.heap.size) (by first | omega | (simp; done) | (simp; omega))
    have hg_wp1 := hG (w.heap.size + 1) (by first | omega | (simp; done) | (simp; omega))
    have hg_wp2 := hG (w.heap.size + 1 + 1) (by first | omega | (simp; done) | (simp; omega))
    have hg_wp3 := hG (w.heap.size + 1 + 1 + 1) (by first | omega | (simp; done) | (simp; omega))
    clear hG
    simp only [List.take_succ_cons, List.take_zero, List.drop_succ_cons, List.drop_zero]
    repeat (go_big_quiet_step (first | (go_at_call 122; first | with_reducible exact calm_call DA.out | with_reducible exact calm_call DB.out) | (go_at_call 115; first | with_reducible exact calm_same UA.out | with_reducible exact calm_same UB.out)))
    refine wpQuiet_nil ?_
    intro w2 hb_w2
    clear hg_w hg_wp1 hg_wp2 hg_wp3
    have hs_w2 := hb_w2.size
    (try simp at hs_w2)
    have hz_w2_w : w.heap.size < w2.heap.size := (by have hs := hb_w2.size; (try simp at hs); omega)
    have hy_w2_w : w.heap.size < w2.heap.size + 1 := (by omega)
    have hx_w2_w : w.heap.size < w2.heap.size + 1 + 1 := (by omega)
    have hc_w2_w := fun o => hb_w2.cell (p := ⟨w.heap.size, o, none⟩) (by first | omega | (simp; done) | (simp; omega))
    have hf_w2_w := fun o => hb_w2.frozen (p := ⟨w.heap.size, o, none⟩) (by first | omega | (simp; done) | (simp; omega))
    have hz_w2_wp1 : w.heap.size + 1 < w2.heap.size := (by have hs := hb_w2.size; (try simp at hs); omega)
    have hy_w2_wp1 : w.heap.size + 1 < w2.heap.size + 1 := (by omega)
    have hx_w2_wp1 : w.heap.size + 1 < w2.heap.size + 1 + 1 := (by omega)
    have hc_w2_wp1 := fun o => hb_w2.cell (p := ⟨w.heap.size + 1, o, none⟩) (by first | omega | (simp; done) | (simp; omega))
    have hf_w2_wp1 := fun o => hb_w2.frozen (p := ⟨w.heap.size + 1, o, none⟩) (by first | omega | (simp; done) | (simp; omega))
    have hz_w2_wp2 : w.heap.size + 1 + 1 < w2.heap.size := (by have hs := hb_w2.size; (try simp at hs); omega)
    have hy_w2_wp2 : w.heap.size + 1 + 1 < w2.heap.size + 1 := (by omega)
    have hx_w2_wp2 : w.heap.size + 1 + 1 < w2.heap.size + 1 + 1 := (by omega)
    have hc_w2_wp2 := fun o => hb_w2.cell (p := ⟨w.heap.size + 1 + 1, o, none⟩) (by first | omega | (simp; done) | (simp; omega))
    have hf_w2_wp2 := fun o => hb_w2.frozen (p := ⟨w.heap.size + 1 + 1, o, none⟩) (by first | omega | (simp; done) | (simp; omega))
    have hz_w2_wp3 : w.heap.size + 1 + 1 + 1 < w2.heap.size := (by have hs := hb_w2.size; (try simp at hs); omega)
    have hy_w2_wp3 : w.heap.size + 1 + 1 + 1 < w2.heap.size + 1 := (by omega)
    have hx_w2_wp3 : w.heap.size + 1 + 1 + 1 < w2.heap.size + 1 + 1 := (by omega)
    have hc_w2_wp3 := fun o => hb_w2.cell (p := ⟨w.heap.size + 1 + 1 + 1, o, none⟩) (by first | omega | (simp; done) | (simp; omega))
    have hf_w2_wp3 := fun o => hb_w2.frozen (p := ⟨w.heap.size + 1 + 1 + 1, o, none⟩) (by first | omega | (simp; done) | (simp; omega))
    go_wp2_with fail
    refine (CK.out _).mono ?_
    rintro e w3 ⟨rfl, hb_w3⟩
    have hs_w3 := hb_w3.size
    (try simp at hs_w3)
    have hz_w3_w : w.heap.size < w3.heap.size := (by have hs := hb_w3.size; (try simp at hs); omega)
    have hy_w3_w : w.heap.size < w3.heap.size + 1 := (by omega)
    have hx_w3_w : w.heap.size < w3.heap.size + 1 + 1 := (by omega)
    have hc_w3_w := fun o => hb_w3.cell (p := ⟨w.heap.size, o, none⟩) (by first | omega | (simp; done) | (simp; omega))
    have hf_w3_w := fun o => hb_w3.frozen (p := ⟨w.heap.size, o, none⟩) (by first | omega | (simp; done) | (simp; omega))
    have hz_w3_wp1 : w.heap.size + 1 < w3.heap.size := (by have hs := hb_w3.size; (try simp at hs); omega)
    have hy_w3_wp1 : w.heap.size + 1 < w3.heap.size + 1 := (by omega)
    have hx_w3_wp1 : w.heap.size + 1 < w3.heap.size + 1 + 1 := (by omega)
    have hc_w3_wp1 := fun o => hb_w3.cell (p := ⟨w.heap.size + 1, o, none⟩) (by first | omega | (simp; done) | (simp; omega))
    have hf_w3_wp1 := fun o => hb_w3.frozen (p := ⟨w.heap.size + 1, o, none⟩) (by first | omega | (simp; done) | (simp; omega))
    have hz_w3_wp2 : w.heap.size + 1 + 1 < w3.heap.size := (by have hs := hb_w3.size; (try simp at hs); omega)
    have hy_w3_wp2 : w.heap.size + 1 + 1 < w3.heap.size + 1 := (by omega)
    have hx_w3_wp2 : w.heap.size + 1 + 1 < w3.heap.size + 1 + 1 := (by omega)
    have hc_w3_wp2 := fun o => hb_w3.cell (p := ⟨w.heap.size + 1 + 1, o, none⟩) (by first | omega | (simp; done) | (simp; omega))
    have hf_w3_wp2 := fun o => hb_w3.frozen (p := ⟨w.heap.size + 1 + 1, o, none⟩) (by first | omega | (simp; done) | (simp; omega))
    go_wp2
    refine bodyPost_ret (by simp [results, Try.results60, go_sem, *]; first | done | rfl) rfl ?_
    exact ⟨rfl, (by repeat' (first | (with_reducible exact Below.refl _ _) | (with_reducible assumption) | (with_reducible refine bl_alloc ?_ _) | (with_reducible refine bl_drew ?_) | (with_reducible refine bl_drewN ?_) | (with_reducible refine bl_setCell ?_ ?_ _) | (with_reducible refine bl_call ?_ (by with_reducible assumption)) | omega | (simp; done) | (simp; omega)))⟩
  · obtain rfl : V = U + r - s := by omega
    have e0 : U + r - s + s = U + r := by omega
    have CK := Lib.hid ck
    clear ck hm
    go_enter Try.func60, Try.ntmps60
    go_wp2_with fail
    obtain ⟨z1, hz⟩ := FX.out _
    refine hz.mono ?_
    clear hz
    rintro e w' ⟨rfl, rfl⟩
    go_wp2_with fail
    obtain ⟨z2, hz⟩ := FY.out _
    refine hz.mono ?_
    clear hz
    rintro e w' ⟨rfl, rfl⟩
    go_wp2_with fail
    refine calm 16 (by kernel_rfl) (by kernel_rfl) fun hG => ?_
    have hg_w := hG (w.heap.size) (by first | omega | (simp; done) | (simp; omega))
    have hg_wp1 := hG (w.heap.size + 1) (by first | omega | (simp; done) | (simp; omega))
    have hg_wp2 := hG (w.heap.size + 1 + 1) (by first | omega | (simp; done) | (simp; omega))
    have hg_wp3 := hG (w.heap.size + 1 + 1 + 1) (by first | omega | (simp; done) | (simp; omega))
    clear hG
    simp only [List.take_succ_cons, List.take_zero, List.drop_succ_cons, List.drop_zero]
    repeat (go_big_quiet_step (first | (go_at_call 122; first | with_reducible exact calm_call DA.out | with_reducible exact calm_call DB.out) | (go_at_call 115; first | with_reducible exact calm_same UA.out | with_reducible exact calm_same UB.out)))
    refine wpQuiet_nil ?_
    intro w2 hb_w2
    clear hg_w hg_wp1 hg_wp2 hg_wp3
    have hs_w2 := hb_w2.size
    (try simp at hs_w2)
    have hz_w2_w : w.heap.size < w2.heap.size := (by have hs := hb_w2.size; (try simp at hs); omega)
    have hy_w2_w : w.heap.size < w2.heap.size + 1 := (by omega)
    have hx_w2_w : w.heap.size < w2.heap.size + 1 + 1 := (by omega)
    have hc_w2_w := fun o => hb_w2.cell (p := ⟨w.heap.size, o, none⟩) (by first | omega | (simp; done) | (simp; omega))
    have hf_w2_w := fun o => hb_w2.frozen (p := ⟨w.heap.size, o, none⟩) (by first | omega | (simp; done) | (simp; omega))
    have hz_w2_wp1 : w.heap.size + 1 < w2.heap.size := (by have hs := hb_w2.size; (try simp at hs); omega)
    have hy_w2_wp1 : w.heap.size + 1 < w2.heap.size + 1 := (by omega)
    have hx_w2_wp1 : w.heap.size + 1 < w2.heap.size + 1 + 1 := (by omega)
    have hc_w2_wp1 := fun o => hb_w2.cell (p := ⟨w.heap.size + 1, o, none⟩) (by first | omega | (simp; done) | (simp; omega))
    have hf_w2_wp1 := fun o => hb_w2.frozen (p := ⟨w.heap.size + 1, o, none⟩) (by first | omega | (simp; done) | (simp; omega))
    have hz_w2_wp2 : w.heap.size + 1 + 1 < w2.heap.size := (by have hs := hb_w2.size; (try simp at hs); omega)
    have hy_w2_wp2 : w.heap.size + 1 + 1 < w2.heap.size + 1 := (by omega)
    have hx_w2_wp2 : w.heap.size + 1 + 1 < w2.heap.size + 1 + 1 := (by omega)
    have hc_w2_wp2 := fun o => hb_w2.cell (p := ⟨w.heap.size + 1 + 1, o, none⟩) (by first | omega | (simp; done) | (simp; omega))
    have hf_w2_wp2 := fun o => hb_w2.frozen (p := ⟨w.heap.size + 1 + 1, o, none⟩) (by first | omega | (simp; done) | (simp; omega))
    have hz_w2_wp3 : w.heap.size + 1 + 1 + 1 < w2.heap.size := (by have hs := hb_w2.size; (try simp at hs); omega)
    have hy_w2_wp3 : w.heap.size + 1 + 1 + 1 < w2.heap.size + 1 := (by omega)
    have hx_w2_wp3 : w.heap.size + 1 + 1 + 1 < w2.heap.size + 1 + 1 := (by omega)
    have hc_w2_wp3 := fun o => hb_w2.cell (p := ⟨w.heap.size + 1 + 1 + 1, o, none⟩) (by first | omega | (simp; done) | (simp; omega))
    have hf_w2_wp3 := fun o => hb_w2.frozen (p := ⟨w.heap.size + 1 + 1 + 1, o, none⟩) (by first | omega | (simp; done) | (simp; omega))
    go_wp2_with fail
    refine (CK.out _).mono ?_
    rintro e w3 ⟨rfl, hb_w3⟩
    have hs_w3 := hb_w3.size
    (try simp at hs_w3)
    have hz_w3_w : w.heap.size < w3.heap.size := (by have hs := hb_w3.size; (try simp at hs); omega)
    have hy_w3_w : w.heap.size < w3.heap.size + 1 := (by omega)
    have hx_w3_w : w.heap.size < w3.heap.size + 1 + 1 := (by omega)
    have hc_w3_w := fun o => hb_w3.cell (p := ⟨w.heap.size, o, none⟩) (by first | omega | (simp; done) | (simp; omega))
    have hf_w3_w := fun o => hb_w3.frozen (p := ⟨w.heap.size, o, none⟩) (by first | omega | (simp; done) | (simp; omega))
    have hz_w3_wp1 : w.heap.size + 1 < w3.heap.size := (by have hs := hb_w3.size; (try simp at hs); omega)
    have hy_w3_wp1 : w.heap.size + 1 < w3.heap.size + 1 := (by omega)
    have hx_w3_wp1 : w.heap.size + 1 < w3.heap.size + 1 + 1 := (by omega)
    have hc_w3_wp1 := fun o => hb_w3.cell (p := ⟨w.heap.size + 1, o, none⟩) (by first | omega | (simp; done) | (simp; omega))
    have hf_w3_wp1 := fun o => hb_w3.frozen (p := ⟨w.heap.size + 1, o, none⟩) (by first | omega | (simp; done) | (simp; omega))
    have hz_w3_wp2 : w.heap.size + 1 + 1 < w3.heap.size := (by have hs := hb_w3.size; (try simp at hs); omega)
    have hy_w3_wp2 : w.heap.size + 1 + 1 < w3.heap.size + 1 := (by omega)
    have hx_w3_wp2 : w.heap.size + 1 + 1 < w3.heap.size + 1 + 1 := (by omega)
    have hc_w3_wp2 := fun o => hb_w3.cell (p := ⟨w.heap.size + 1 + 1, o, none⟩) (by first | omega | (simp; done) | (simp; omega))
    have hf_w3_wp2 := fun o => hb_w3.frozen (p := ⟨w.heap.size + 1 + 1, o, none⟩) (by first | omega | (simp; done) | (simp; omega))
    go_wp2
    refine bodyPost_ret (by simp [results, Try.results60, go_sem, *]; first | done | rfl) rfl ?_
    exact ⟨rfl, (by repeat' (first | (with_reducible exact Below.refl _ _) | (with_reducible assumption) | (with_reducible refine bl_alloc ?_ _) | (with_reducible refine bl_drew ?_) | (with_reducible refine bl_drewN ?_) | (with_reducible refine bl_setCell ?_ ?_ _) | (with_reducible refine bl_call ?_ (by with_reducible assumption)) | omega | (simp; done) | (simp; omega)))⟩

theorem rHull_any (a b r c d s : Int) (w : World) (h : Right a b r) (h' : Right c d s) :
    Calls Try.prog 60 #[.agg #[.int .i64 a, .int .i64 b, .int .i64 r], .agg #[.int .i64 c, .int .i64 d, .int .i64 s]] w fun e w' => e = .returned (outR (fin (huC a c) (huC b d) (huR a b r c d s) 0)) ∧ Below w.heap.size w w' := by
  obtain ⟨s1, s2, s3, s4⟩ := huC_sh h h'
  have q1 := s1.sq s2
  have q2 := s3.sq s4
  have u1 := rtu_bd q1.1 (by omega)
  have u2 := rtu_bd q2.1 (by omega)
  have bx := huC_bd h.1.1 h.1.2.1 h'.1.1 h'.1.2.1
  have by' := huC_bd h.1.2.2.1 h.1.2.2.2 h'.1.2.2.1 h'.1.2.2.2
  have e1 := h.sh
  have e2 := h'.sh
  refine rHull_core a b r c d s _ _ _ _ _ _ _ w h h' (huC_eq a c) (huC_eq b d) u1.1 u1.2 u2.1 u2.2
    (fun w => distance_any _ _ 0 a b r w s1.sm s2.sm (.of (by omega) (by omega)) (.of (by omega) (by omega)) e1.1.sm e1.2.sm)
    (fun w => distance_any _ _ 0 c d s w s3.sm s4.sm (.of (by omega) (by omega)) (.of (by omega) (by omega)) e2.1.sm e2.2.sm)
    (fun w => bRootUp_any _ w q1.1 (by omega)) (fun w => bRootUp_any _ w q2.1 (by omega)) ?_
  intro w
  have := Checked_any (huC a c) (huC b d) (huR a b r c d s) w
  rw [show huR a b r c d s = max (rtu ((huC a c - a) * (huC a c - a) + (huC b d - b) * (huC b d - b)) + r) (rtu ((huC a c - c) * (huC a c - c) + (huC b d - d) * (huC b d - d)) + s) from by unfold huR; rfl] at this ⊢
  exact this
end Go.Proofs.Ytjgmjnjpgdadhaa
