/- The walks of the questions about balls: whether they lie apart, meet, or one in the other. -/
import Derived.Test.YtjgmjnjpgdadhaaRefAdds
import Derived.Test.YtjgmjnjpgdadhaaWhole2
import Derived.Test.YtjgmjnjpgdadhaaCalmMany
namespace Go.Proofs.Ytjgmjnjpgdadhaa
open Go.RowKit

/-- Whether two centres are at most so far apart. -/
@[irreducible] def apB (a b c d m : Int) : Bool := decide (0 ≤ m) && decide ((a - c) * (a - c) + (b - d) * (b - d) ≤ m * m)

set_option maxHeartbeats 1000000 in
theorem apart_any (a b c d m : Int) (w : World) (h1 : Sm a) (h2 : Sm b) (h3 : Sm c) (h4 : Sm d) (h5 : Sm (a - c)) (h6 : Sm (b - d)) (h7 : Sm m) :
    Calls Try.prog 118 #[.agg #[.int .i64 a, .int .i64 b], .agg #[.int .i64 c, .int .i64 d], .int .i64 m] w fun e w' => e = .returned (.bool (apB a b c d m)) ∧ Below w.heap.size w w' := by
  have q1 := h7.mul h7
  by_cases hm : 0 ≤ m
  · have e : apB a b c d m = decide ((a - c) * (a - c) + (b - d) * (b - d) ≤ m * m) := by unfold apB; simp [hm]
    rw [e]
    have cm := fun w => minus_any a b c d w h1 h2 h3 h4
    have cs := fun w => square_any (a - c) (b - d) w h5 h6
    have s5 := h5.mul h5
    have s6 := h6.mul h6
    generalize (a - c) * (a - c) + (b - d) * (b - d) = S at *
    have CM := Lib.hid cm
    have CS := Lib.hid cs
    clear cm cs s5 s6 h5 h6
    go_enter Try.func118, Try.ntmps118
    go_wp2_with fail
    refine (CM.out _).mono ?_
    rintro e w1 ⟨rfl, hb_w1⟩
    have hs_w1 := hb_w1.size
    (try simp at hs_w1)
    go_wp2_with fail
    refine (CS.out _).mono ?_
    rintro e w2 ⟨rfl, hb_w2⟩
    have hs_w2 := hb_w2.size
    (try simp at hs_w2)
    go_wp2
    go_ret
    exact ⟨rfl, (by repeat' (first | (with_reducible exact Below.refl _ _) | (with_reducible assumption) | (with_reducible refine bl_alloc ?_ _) | (with_reducible refine bl_drew ?_) | (with_reducible refine bl_drewN ?_) | (with_reducible refine bl_setCell ?_ ?_ _) | (with_reducible refine bl_call ?_ (by with_reducible assumption)) | omega | (simp; done) | (simp; omega)))⟩
  · have e : apB a b c d m = false := by unfold apB; simp [hm]
    rw [e]
    go_enter Try.func118, Try.ntmps118
    go_wp2
    go_ret
    exact ⟨rfl, (by repeat' (first | (with_reducible exact Below.refl _ _) | (with_reducible assumption) | (with_reducible refine bl_alloc ?_ _) | (with_reducible refine bl_drew ?_) | (with_reducible refine bl_drewN ?_) | (with_reducible refine bl_setCell ?_ ?_ _) | (with_reducible refine bl_call ?_ (by with_reducible assumption)) | omega | (simp; done) | (simp; omega)))⟩

theorem Sm.of {x : Int} (h1 : -1073741824 ≤ x) (h2 : x ≤ 1073741824) : Sm x := ⟨h1, h2⟩

set_option maxHeartbeats 1000000 in
theorem meets1_any (a b r c d s : Int) (w : World) (h : Right a b r) (h' : Right c d s) :
    Calls Try.prog 117 #[.agg #[.int .i64 a, .int .i64 b, .int .i64 r], .agg #[.int .i64 c, .int .i64 d, .int .i64 s]] w fun e w' => e = .returned (.bool (apB a b c d (r + s))) ∧ Below w.heap.size w w' := by
  obtain ⟨⟨h1, h2, h3, h4⟩, r0, r1⟩ := h
  obtain ⟨⟨h5, h6, h7, h8⟩, s0, s1⟩ := h'
  have C := Lib.hid (fun w => apart_any a b c d (r + s) w (.of (by omega) (by omega)) (.of (by omega) (by omega)) (.of (by omega) (by omega)) (.of (by omega) (by omega)) (.of (by omega) (by omega)) (.of (by omega) (by omega)) (.of (by omega) (by omega)))
  go_enter Try.func117, Try.ntmps117
  go_wp2_with fail
  refine (C.out _).mono ?_
  rintro e w1 ⟨rfl, hb_w1⟩
  have hs_w1 := hb_w1.size
  (try simp at hs_w1)
  go_wp2
  go_ret
  exact ⟨rfl, (by repeat' (first | (with_reducible exact Below.refl _ _) | (with_reducible assumption) | (with_reducible refine bl_alloc ?_ _) | (with_reducible refine bl_drew ?_) | (with_reducible refine bl_drewN ?_) | (with_reducible refine bl_setCell ?_ ?_ _) | (with_reducible refine bl_call ?_ (by with_reducible assumption)) | omega | (simp; done) | (simp; omega)))⟩

set_option maxHeartbeats 1000000 in
theorem inside1_any (a b r c d s : Int) (w : World) (h : Right a b r) (h' : Right c d s) :
    Calls Try.prog 123 #[.agg #[.int .i64 a, .int .i64 b, .int .i64 r], .agg #[.int .i64 c, .int .i64 d, .int .i64 s]] w fun e w' => e = .returned (.bool (apB a b c d (s - r))) ∧ Below w.heap.size w w' := by
  obtain ⟨⟨h1, h2, h3, h4⟩, r0, r1⟩ := h
  obtain ⟨⟨h5, h6, h7, h8⟩, s0, s1⟩ := h'
  have C := Lib.hid (fun w => apart_any a b c d (s - r) w (.of (by omega) (by omega)) (.of (by omega) (by omega)) (.of (by omega) (by omega)) (.of (by omega) (by omega)) (.of (by omega) (by omega)) (.of (by omega) (by omega)) (.of (by omega) (by omega)))
  go_enter Try.func123, Try.ntmps123
  go_wp2_with fail
  refine (C.out _).mono ?_
  rintro e w1 ⟨rfl, hb_w1⟩
  have hs_w1 := hb_w1.size
  (try simp at hs_w1)
  go_wp2
  go_ret
  exact ⟨rfl, (by repeat' (first | (with_reducible exact Below.refl _ _) | (with_reducible assumption) | (with_reducible refine bl_alloc ?_ _) | (with_reducible refine bl_drew ?_) | (with_reducible refine bl_drewN ?_) | (with_reducible refine bl_setCell ?_ ?_ _) | (with_reducible refine bl_call ?_ (by with_reducible assumption)) | omega | (simp; done) | (simp; omega)))⟩

/-- What the question's function hands back for these two discs. -/
def Asks (k : Nat) (x y r x' y' r' : Int) (v : Bool) : Prop :=
  ∀ w1, Calls Try.prog k #[.agg #[.int .i64 x, .int .i64 y, .int .i64 r], .agg #[.int .i64 x', .int .i64 y', .int .i64 r']] w1 fun e w' => e = .returned (.bool v) ∧ Below w1.heap.size w1 w'
theorem Asks.go {k : Nat} {x y r x' y' r' : Int} {v : Bool} (h : Asks k x y r x' y' r' v) (w1 : World) : Calls Try.prog k #[.agg #[.int .i64 x, .int .i64 y, .int .i64 r], .agg #[.int .i64 x', .int .i64 y', .int .i64 r']] w1 fun e w' => e = .returned (.bool v) ∧ Below w1.heap.size w1 w' := h w1

set_option maxHeartbeats 1000000 in
theorem ask_yes (k : Nat) (x y r x' y' r' : Int) (v : Bool) (w : World) (eg : ∀ args w, (callFunc k args).run Try.prog w = .ok (.enter k args) w) (h : Right x y r) (h' : Right x' y' r') (hd : Asks k x y r x' y' r' v) :
    Calls Try.prog 116 #[.agg #[.complex .f64 (fl x) (fl y), .int .i64 r], .agg #[.complex .f64 (fl x') (fl y'), .int .i64 r'], .func (.func k) #[] #[]] w fun e w' => e = .returned (.tuple #[.bool v, .int .i64 0]) ∧ Below w.heap.size w w' := by
  go_enter Try.func116, Try.ntmps116
  go_wp2_with fail
  refine (read_yes x y r _ h.1 h.2.1 h.2.2).mono ?_
  rintro e w1 ⟨rfl, hb_w1⟩
  have hs_w1 := hb_w1.size
  (try simp at hs_w1)
  have hz_w1_wp1 : w.heap.size + 1 < w1.heap.size := (by have hs := hb_w1.size; (try simp at hs); omega)
  have hy_w1_wp1 : w.heap.size + 1 < w1.heap.size + 1 := (by omega)
  have hx_w1_wp1 : w.heap.size + 1 < w1.heap.size + 1 + 1 := (by omega)
  have hc_w1_wp1 := fun o => hb_w1.cell (p := ⟨w.heap.size + 1, o, none⟩) (by first | omega | (simp; done) | (simp; omega))
  have hf_w1_wp1 := fun o => hb_w1.frozen (p := ⟨w.heap.size + 1, o, none⟩) (by first | omega | (simp; done) | (simp; omega))
  go_wp2_with fail
  refine (read_yes x' y' r' _ h'.1 h'.2.1 h'.2.2).mono ?_
  rintro e w2 ⟨rfl, hb_w2⟩
  have hs_w2 := hb_w2.size
  (try simp at hs_w2)
  have hz_w2_w1 : w1.heap.size < w2.heap.size := (by have hs := hb_w2.size; (try simp at hs); omega)
  have hy_w2_w1 : w1.heap.size < w2.heap.size + 1 := (by omega)
  have hx_w2_w1 : w1.heap.size < w2.heap.size + 1 + 1 := (by omega)
  have hc_w2_w1 := fun o => hb_w2.cell (p := ⟨w1.heap.size, o, none⟩) (by first | omega | (simp; done) | (simp; omega))
  have hf_w2_w1 := fun o => hb_w2.frozen (p := ⟨w1.heap.size, o, none⟩) (by first | omega | (simp; done) | (simp; omega))
  go_wp2_with fail
  refine (hd.go _).mono ?_
  rintro e w3 ⟨rfl, hb_w3⟩
  have hs_w3 := hb_w3.size
  (try simp at hs_w3)
  go_wp2
  go_ret2
  exact ⟨rfl, (by repeat' (first | (with_reducible exact Below.refl _ _) | (with_reducible assumption) | (with_reducible refine bl_alloc ?_ _) | (with_reducible refine bl_drew ?_) | (with_reducible refine bl_drewN ?_) | (with_reducible refine bl_setCell ?_ ?_ _) | (with_reducible refine bl_call ?_ (by with_reducible assumption)) | omega | (simp; done) | (simp; omega)))⟩

set_option maxHeartbeats 1000000 in
theorem ask_bad1 (f : Value) (x y r x' y' r' : Int) (w : World) (f1 : Flo x) (f2 : Flo y) (h : ¬ Right x y r) :
    Calls Try.prog 116 #[.agg #[.complex .f64 (fl x) (fl y), .int .i64 r], .agg #[.complex .f64 (fl x') (fl y'), .int .i64 r'], f] w fun e w' => e = .returned (.tuple #[.bool false, .int .i64 2]) ∧ Below w.heap.size w w' := by
  have R : Hid (∀ w, ∃ a b, Calls Try.prog 119 #[.agg #[.complex .f64 (fl x) (fl y), .int .i64 r]] w fun e w' => e = .returned (.tuple #[.agg #[.int .i64 a, .int .i64 b, .int .i64 r], .int .i64 2]) ∧ Below w.heap.size w w') := Lib.hid fun w => read_no x y r w f1 f2 h
  go_enter Try.func116, Try.ntmps116
  go_wp2_with fail
  obtain ⟨a, b, hr⟩ := R.out _
  refine hr.mono ?_
  clear hr
  rintro e w1 ⟨rfl, hb1⟩
  have hs_w1 := hb1.size
  (try simp at hs_w1)
  have hz_w1_w : w.heap.size < w1.heap.size := (by have hs := hb1.size; (try simp at hs); omega)
  have hy_w1_w : w.heap.size < w1.heap.size + 1 := (by omega)
  have hx_w1_w : w.heap.size < w1.heap.size + 1 + 1 := (by omega)
  have hc_w1_w := fun o => hb1.cell (p := ⟨w.heap.size, o, none⟩) (by first | omega | (simp; done) | (simp; omega))
  have hf_w1_w := fun o => hb1.frozen (p := ⟨w.heap.size, o, none⟩) (by first | omega | (simp; done) | (simp; omega))
  have hz_w1_wp1 : w.heap.size + 1 < w1.heap.size := (by have hs := hb1.size; (try simp at hs); omega)
  have hy_w1_wp1 : w.heap.size + 1 < w1.heap.size + 1 := (by omega)
  have hx_w1_wp1 : w.heap.size + 1 < w1.heap.size + 1 + 1 := (by omega)
  have hc_w1_wp1 := fun o => hb1.cell (p := ⟨w.heap.size + 1, o, none⟩) (by first | omega | (simp; done) | (simp; omega))
  have hf_w1_wp1 := fun o => hb1.frozen (p := ⟨w.heap.size + 1, o, none⟩) (by first | omega | (simp; done) | (simp; omega))
  go_wp2
  go_ret2
  exact ⟨rfl, (by repeat' (first | (with_reducible exact Below.refl _ _) | (with_reducible assumption) | (with_reducible refine bl_alloc ?_ _) | (with_reducible refine bl_drew ?_) | (with_reducible refine bl_drewN ?_) | (with_reducible refine bl_setCell ?_ ?_ _) | (with_reducible refine bl_call ?_ (by with_reducible assumption)) | omega | (simp; done) | (simp; omega)))⟩

set_option maxHeartbeats 1000000 in
theorem ask_bad2 (f : Value) (x y r x' y' r' : Int) (w : World) (h : Right x y r) (f1 : Flo x') (f2 : Flo y') (h' : ¬ Right x' y' r') :
    Calls Try.prog 116 #[.agg #[.complex .f64 (fl x) (fl y), .int .i64 r], .agg #[.complex .f64 (fl x') (fl y'), .int .i64 r'], f] w fun e w' => e = .returned (.tuple #[.bool false, .int .i64 2]) ∧ Below w.heap.size w w' := by
  have R : Hid (∀ w, ∃ a b, Calls Try.prog 119 #[.agg #[.complex .f64 (fl x') (fl y'), .int .i64 r']] w fun e w' => e = .returned (.tuple #[.agg #[.int .i64 a, .int .i64 b, .int .i64 r'], .int .i64 2]) ∧ Below w.heap.size w w') := Lib.hid fun w => read_no x' y' r' w f1 f2 h'
  go_enter Try.func116, Try.ntmps116
  go_wp2_with fail
  refine (read_yes x y r _ h.1 h.2.1 h.2.2).mono ?_
  rintro e w1 ⟨rfl, hb1⟩
  have hs_w1 := hb1.size
  (try simp at hs_w1)
  have hz_w1_w : w.heap.size < w1.heap.size := (by have hs := hb1.size; (try simp at hs); omega)
  have hy_w1_w : w.heap.size < w1.heap.size + 1 := (by omega)
  have hx_w1_w : w.heap.size < w1.heap.size + 1 + 1 := (by omega)
  have hc_w1_w := fun o => hb1.cell (p := ⟨w.heap.size, o, none⟩) (by first | omega | (simp; done) | (simp; omega))
  have hf_w1_w := fun o => hb1.frozen (p := ⟨w.heap.size, o, none⟩) (by first | omega | (simp; done) | (simp; omega))
  have hz_w1_wp1 : w.heap.size + 1 < w1.heap.size := (by have hs := hb1.size; (try simp at hs); omega)
  have hy_w1_wp1 : w.heap.size + 1 < w1.heap.size + 1 := (by omega)
  have hx_w1_wp1 : w.heap.size + 1 < w1.heap.size + 1 + 1 := (by omega)
  have hc_w1_wp1 := fun o => hb1.cell (p := ⟨w.heap.size + 1, o, none⟩) (by first | omega | (simp; done) | (simp; omega))
  have hf_w1_wp1 := fun o => hb1.frozen (p := ⟨w.heap.size + 1, o, none⟩) (by first | omega | (simp; done) | (simp; omega))
  go_wp2_with fail
  obtain ⟨a, b, hr⟩ := R.out _
  refine hr.mono ?_
  clear hr
  rintro e w2 ⟨rfl, hb2⟩
  have hs_w2 := hb2.size
  (try simp at hs_w2)
  have hz_w2_w : w.heap.size < w2.heap.size := (by have hs := hb2.size; (try simp at hs); omega)
  have hy_w2_w : w.heap.size < w2.heap.size + 1 := (by omega)
  have hx_w2_w : w.heap.size < w2.heap.size + 1 + 1 := (by omega)
  have hc_w2_w := fun o => hb2.cell (p := ⟨w.heap.size, o, none⟩) (by first | omega | (simp; done) | (simp; omega))
  have hf_w2_w := fun o => hb2.frozen (p := ⟨w.heap.size, o, none⟩) (by first | omega | (simp; done) | (simp; omega))
  have hz_w2_wp1 : w.heap.size + 1 < w2.heap.size := (by have hs := hb2.size; (try simp at hs); omega)
  have hy_w2_wp1 : w.heap.size + 1 < w2.heap.size + 1 := (by omega)
  have hx_w2_wp1 : w.heap.size + 1 < w2.heap.size + 1 + 1 := (by omega)
  have hc_w2_wp1 := fun o => hb2.cell (p := ⟨w.heap.size + 1, o, none⟩) (by first | omega | (simp; done) | (simp; omega))
  have hf_w2_wp1 := fun o => hb2.frozen (p := ⟨w.heap.size + 1, o, none⟩) (by first | omega | (simp; done) | (simp; omega))
  have hz_w2_w1 : w1.heap.size < w2.heap.size := (by have hs := hb2.size; (try simp at hs); omega)
  have hy_w2_w1 : w1.heap.size < w2.heap.size + 1 := (by omega)
  have hx_w2_w1 : w1.heap.size < w2.heap.size + 1 + 1 := (by omega)
  have hc_w2_w1 := fun o => hb2.cell (p := ⟨w1.heap.size, o, none⟩) (by first | omega | (simp; done) | (simp; omega))
  have hf_w2_w1 := fun o => hb2.frozen (p := ⟨w1.heap.size, o, none⟩) (by first | omega | (simp; done) | (simp; omega))
  go_wp2
  go_ret2
  exact ⟨rfl, (by repeat' (first | (with_reducible exact Below.refl _ _) | (with_reducible assumption) | (with_reducible refine bl_alloc ?_ _) | (with_reducible refine bl_drew ?_) | (with_reducible refine bl_drewN ?_) | (with_reducible refine bl_setCell ?_ ?_ _) | (with_reducible refine bl_call ?_ (by with_reducible assumption)) | omega | (simp; done) | (simp; omega)))⟩

/-- Whether a question about two balls is answered, and how. -/
@[irreducible] def askV (x y r x' y' r' : Int) (v : Bool) : Bool := if Right x y r ∧ Right x' y' r' then v else false
@[irreducible] def askQ (x y r x' y' r' : Int) : Int := if Right x y r ∧ Right x' y' r' then 0 else 2

theorem ask_any (k : Nat) (x y r x' y' r' : Int) (v : Bool) (w : World) (eg : ∀ args w, (callFunc k args).run Try.prog w = .ok (.enter k args) w) (f1 : Flo x) (f2 : Flo y) (g1 : Flo x') (g2 : Flo y') (hd : Right x y r → Right x' y' r' → Asks k x y r x' y' r' v) :
    Calls Try.prog 116 #[.agg #[.complex .f64 (fl x) (fl y), .int .i64 r], .agg #[.complex .f64 (fl x') (fl y'), .int .i64 r'], .func (.func k) #[] #[]] w fun e w' => e = .returned (.tuple #[.bool (askV x y r x' y' r' v), .int .i64 (askQ x y r x' y' r')]) ∧ Below w.heap.size w w' := by
  unfold askV askQ
  by_cases h : Right x y r
  · by_cases h' : Right x' y' r'
    · rw [if_pos ⟨h, h'⟩, if_pos ⟨h, h'⟩]; exact ask_yes k x y r x' y' r' v w eg h h' (hd h h')
    · rw [if_neg (fun k => h' k.2), if_neg (fun k => h' k.2)]; exact ask_bad2 _ x y r x' y' r' w h g1 g2 h'
  · rw [if_neg (fun k => h k.1), if_neg (fun k => h k.1)]; exact ask_bad1 _ x y r x' y' r' w f1 f2 h

set_option maxHeartbeats 1000000 in
theorem Meets_any (x y r x' y' r' : Int) (w : World) (f1 : Flo x) (f2 : Flo y) (g1 : Flo x') (g2 : Flo y') :
    Calls Try.prog 52 #[.agg #[.complex .f64 (fl x) (fl y), .int .i64 r], .agg #[.complex .f64 (fl x') (fl y'), .int .i64 r']] w fun e w' => e = .returned (.tuple #[.bool (askV x y r x' y' r' (apB x y x' y' (r + r'))), .int .i64 (askQ x y r x' y' r')]) ∧ Below w.heap.size w w' := by
  have hd : Right x y r → Right x' y' r' → Asks 117 x y r x' y' r' (apB x y x' y' (r + r')) := fun h h' w1 => meets1_any x y r x' y' r' w1 h h'
  generalize apB x y x' y' (r + r') = v at *
  go_enter Try.func52, Try.ntmps52
  go_wp2_with fail
  refine (ask_any _ x y r x' y' r' v _ (enters_of Try.func117 (by kernel_rfl) rfl) f1 f2 g1 g2 hd).mono ?_
  rintro e w1 ⟨rfl, hb_w1⟩
  have hs_w1 := hb_w1.size
  (try simp at hs_w1)
  go_wp2
  go_ret2
  exact ⟨rfl, (by repeat' (first | (with_reducible exact Below.refl _ _) | (with_reducible assumption) | (with_reducible refine bl_alloc ?_ _) | (with_reducible refine bl_drew ?_) | (with_reducible refine bl_drewN ?_) | (with_reducible refine bl_setCell ?_ ?_ _) | (with_reducible refine bl_call ?_ (by with_reducible assumption)) | omega | (simp; done) | (simp; omega)))⟩

set_option maxHeartbeats 1000000 in
theorem Inside_any (x y r x' y' r' : Int) (w : World) (f1 : Flo x) (f2 : Flo y) (g1 : Flo x') (g2 : Flo y') :
    Calls Try.prog 58 #[.agg #[.complex .f64 (fl x) (fl y), .int .i64 r], .agg #[.complex .f64 (fl x') (fl y'), .int .i64 r']] w fun e w' => e = .returned (.tuple #[.bool (askV x y r x' y' r' (apB x y x' y' (r' - r))), .int .i64 (askQ x y r x' y' r')]) ∧ Below w.heap.size w w' := by
  have hd : Right x y r → Right x' y' r' → Asks 123 x y r x' y' r' (apB x y x' y' (r' - r)) := fun h h' w1 => inside1_any x y r x' y' r' w1 h h'
  generalize apB x y x' y' (r' - r) = v at *
  go_enter Try.func58, Try.ntmps58
  go_wp2_with fail
  refine (ask_any _ x y r x' y' r' v _ (enters_of Try.func123 (by kernel_rfl) rfl) f1 f2 g1 g2 hd).mono ?_
  rintro e w1 ⟨rfl, hb_w1⟩
  have hs_w1 := hb_w1.size
  (try simp at hs_w1)
  go_wp2
  go_ret2
  exact ⟨rfl, (by repeat' (first | (with_reducible exact Below.refl _ _) | (with_reducible assumption) | (with_reducible refine bl_alloc ?_ _) | (with_reducible refine bl_drew ?_) | (with_reducible refine bl_drewN ?_) | (with_reducible refine bl_setCell ?_ ?_ _) | (with_reducible refine bl_call ?_ (by with_reducible assumption)) | omega | (simp; done) | (simp; omega)))⟩
end Go.Proofs.Ytjgmjnjpgdadhaa
