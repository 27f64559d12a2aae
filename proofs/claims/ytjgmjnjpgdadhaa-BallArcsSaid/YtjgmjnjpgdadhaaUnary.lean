/- The frames of an operation on one ball, and on two. -/
import Derived.Test.YtjgmjnjpgdadhaaDisc
import Derived.Shelf.Abstract
namespace Go.Proofs.Ytjgmjnjpgdadhaa
open Go.RowKit

/-- What the operation hands back for this disc, in every world in which all that lay in w lies unturned. -/
def Does (k : Nat) (cap : Array Value) (x y r : Int) (w : World) (v : Value) : Prop :=
  ∀ w1, Below w.heap.size w w1 → Calls Try.prog k (#[.agg #[.int .i64 x, .int .i64 y, .int .i64 r]] ++ cap) w1 fun e w' => e = .returned v ∧ Below w1.heap.size w1 w'

theorem Does.go {k : Nat} {cap : Array Value} {x y r : Int} {w : World} {v : Value} (h : Does k cap x y r w v) (w1 : World) (hb : Below w.heap.size w w1) : Calls Try.prog k (#[.agg #[.int .i64 x, .int .i64 y, .int .i64 r]] ++ cap) w1 fun e w' => e = .returned v ∧ Below w1.heap.size w1 w' := h w1 hb

set_option maxHeartbeats 1000000 in
theorem unary_yes (k : Nat) (cap : Array Value) (x y r a b c : Int) (w : World) (eg : ∀ args w, (callFunc k args).run Try.prog w = .ok (.enter k args) w)
    (h : Fits x y) (r0 : 0 ≤ r) (r1 : r ≤ 67108864) (hd : Does k cap x y r w (.tuple #[.agg #[.int .i64 a, .int .i64 b, .int .i64 c], .int .i64 0])) (h2 : Fits a b) (c0 : 0 ≤ c) (c1 : c ≤ 67108864) :
    Calls Try.prog 104 #[.agg #[.complex .f64 (fl x) (fl y), .int .i64 r], .func (.func k) #[] cap] w fun e w' => e = .returned (.tuple #[.agg #[.complex .f64 (fl a) (fl b), .int .i64 c], .int .i64 0]) ∧ Below w.heap.size w w' := by
  go_enter Try.func104, Try.ntmps104
  go_wp2_with (go_at_call 119; (with_reducible refine (read_yes x y r _ h r0 r1).mono ?_); rintro e w1 ⟨rfl, hb1⟩; have hz_w1_w : w.heap.size < w1.heap.size := (by have hs := hb1.size; (try simp at hs); omega); have hy_w1_w : w.heap.size < w1.heap.size + 1 := (by omega); have hx_w1_w : w.heap.size < w1.heap.size + 1 + 1 := (by omega); have hc_w1_w := fun o => hb1.cell (p := ⟨w.heap.size, o, none⟩) (by first | omega | (simp; done) | (simp; omega)); have hf_w1_w := fun o => hb1.frozen (p := ⟨w.heap.size, o, none⟩) (by first | omega | (simp; done) | (simp; omega)); have hz_w1_wp1 : w.heap.size + 1 < w1.heap.size := (by have hs := hb1.size; (try simp at hs); omega); have hy_w1_wp1 : w.heap.size + 1 < w1.heap.size + 1 := (by omega); have hx_w1_wp1 : w.heap.size + 1 < w1.heap.size + 1 + 1 := (by omega); have hc_w1_wp1 := fun o => hb1.cell (p := ⟨w.heap.size + 1, o, none⟩) (by first | omega | (simp; done) | (simp; omega)); have hf_w1_wp1 := fun o => hb1.frozen (p := ⟨w.heap.size + 1, o, none⟩) (by first | omega | (simp; done) | (simp; omega)))
  refine (hd _ (by repeat' (first | (with_reducible exact Below.refl _ _) | (with_reducible assumption) | (with_reducible refine bl_alloc ?_ _) | (with_reducible refine bl_drew ?_) | (with_reducible refine bl_drewN ?_) | (with_reducible refine bl_setCell ?_ ?_ _) | (with_reducible refine bl_call ?_ (by with_reducible assumption)) | omega | (simp; done) | (simp; omega)))).mono ?_
  rintro e w2 ⟨rfl, hb2⟩
  have hz_w2_w : w.heap.size < w2.heap.size := (by have hs := hb2.size; (try simp at hs); omega)
  have hy_w2_w : w.heap.size < w2.heap.size + 1 := (by omega)
  have hx_w2_w : w.heap.size < w2.heap.size + 1 + 1 := (by omega)
  have hc_w2_w := fun o => hb2.cell (p := ⟨w.heap.size, o, none⟩) (by first | omega | (simp; done) | (simp; omega))
  have hf_w2_w := fun o => hb2.frozen (p := ⟨w.heap.size, o, none⟩) (by first | omega | (simp; done) | (simp; omega))
  have hz_w2_wp1 : w.heap.size + 1 < w2.heap.size := (by have hs := hb2.size; (try simp at hs); omega)
  have hy_w2_wp1 : w.heap.size + 1 < w2.heap.size + 1 := (by omega)
  have hx_w2_wp1 : w.heap.size + 1 < w2.heap.size + 1 + 1 := (by omega)
  have hc_w2_wp1 := fun o => hb2.cell (p := ⟨w.heap.size + 1, o, none⟩) (by first | omega | (simp; done) | (simp; omega))
  have hf_w2_wp1 := fun o => hb2.frozen (p := ⟨w.heap.size + 1, o, none⟩) (by first | omega | (simp; done) | (simp; omega))
  have hz_w2_w1 : w1.heap.size < w2.heap.size := (by have hs := hb2.size; (try simp at hs); omega)
  have hy_w2_w1 : w1.heap.size < w2.heap.size + 1 := (by omega)
  have hx_w2_w1 : w1.heap.size < w2.heap.size + 1 + 1 := (by omega)
  have hc_w2_w1 := fun o => hb2.cell (p := ⟨w1.heap.size, o, none⟩) (by first | omega | (simp; done) | (simp; omega))
  have hf_w2_w1 := fun o => hb2.frozen (p := ⟨w1.heap.size, o, none⟩) (by first | omega | (simp; done) | (simp; omega))
  go_wp2_with (go_at_call 100; (with_reducible refine (ball_yes a b c _ h2 c0 c1).mono ?_); rintro e w3 ⟨rfl, hb3⟩; have hz_w3_w : w.heap.size < w3.heap.size := (by have hs := hb3.size; (try simp at hs); omega); have hy_w3_w : w.heap.size < w3.heap.size + 1 := (by omega); have hx_w3_w : w.heap.size < w3.heap.size + 1 + 1 := (by omega); have hc_w3_w := fun o => hb3.cell (p := ⟨w.heap.size, o, none⟩) (by first | omega | (simp; done) | (simp; omega)); have hf_w3_w := fun o => hb3.frozen (p := ⟨w.heap.size, o, none⟩) (by first | omega | (simp; done) | (simp; omega)); have hz_w3_wp1 : w.heap.size + 1 < w3.heap.size := (by have hs := hb3.size; (try simp at hs); omega); have hy_w3_wp1 : w.heap.size + 1 < w3.heap.size + 1 := (by omega); have hx_w3_wp1 : w.heap.size + 1 < w3.heap.size + 1 + 1 := (by omega); have hc_w3_wp1 := fun o => hb3.cell (p := ⟨w.heap.size + 1, o, none⟩) (by first | omega | (simp; done) | (simp; omega)); have hf_w3_wp1 := fun o => hb3.frozen (p := ⟨w.heap.size + 1, o, none⟩) (by first | omega | (simp; done) | (simp; omega)); have hz_w3_w1 : w1.heap.size < w3.heap.size := (by have hs := hb3.size; (try simp at hs); omega); have hy_w3_w1 : w1.heap.size < w3.heap.size + 1 := (by omega); have hx_w3_w1 : w1.heap.size < w3.heap.size + 1 + 1 := (by omega); have hc_w3_w1 := fun o => hb3.cell (p := ⟨w1.heap.size, o, none⟩) (by first | omega | (simp; done) | (simp; omega)); have hf_w3_w1 := fun o => hb3.frozen (p := ⟨w1.heap.size, o, none⟩) (by first | omega | (simp; done) | (simp; omega)))
  refine bodyPost_ret (by simp [results, Try.results104, go_sem, *]; first | done | rfl) rfl ?_
  exact ⟨rfl, (by repeat' (first | (with_reducible exact Below.refl _ _) | (with_reducible assumption) | (with_reducible refine bl_alloc ?_ _) | (with_reducible refine bl_drew ?_) | (with_reducible refine bl_drewN ?_) | (with_reducible refine bl_setCell ?_ ?_ _) | (with_reducible refine bl_call ?_ (by with_reducible assumption)) | omega | (simp; done) | (simp; omega)))⟩

set_option maxHeartbeats 1000000 in
theorem unary_large (k : Nat) (cap : Array Value) (x y r a b c : Int) (w : World) (eg : ∀ args w, (callFunc k args).run Try.prog w = .ok (.enter k args) w)
    (h : Fits x y) (r0 : 0 ≤ r) (r1 : r ≤ 67108864) (hd : Does k cap x y r w (.tuple #[.agg #[.int .i64 a, .int .i64 b, .int .i64 c], .int .i64 0])) (h2 : ¬ (Fits a b ∧ 0 ≤ c ∧ c ≤ 67108864)) :
    Calls Try.prog 104 #[.agg #[.complex .f64 (fl x) (fl y), .int .i64 r], .func (.func k) #[] cap] w fun e w' => e = .returned (.tuple #[.agg #[.complex .f64 0 0, .int .i64 0], .int .i64 8]) ∧ Below w.heap.size w w' := by
  go_enter Try.func104, Try.ntmps104
  go_wp2_with (go_at_call 119; (with_reducible refine (read_yes x y r _ h r0 r1).mono ?_); rintro e w1 ⟨rfl, hb1⟩; have hz_w1_w : w.heap.size < w1.heap.size := (by have hs := hb1.size; (try simp at hs); omega); have hy_w1_w : w.heap.size < w1.heap.size + 1 := (by omega); have hx_w1_w : w.heap.size < w1.heap.size + 1 + 1 := (by omega); have hc_w1_w := fun o => hb1.cell (p := ⟨w.heap.size, o, none⟩) (by first | omega | (simp; done) | (simp; omega)); have hf_w1_w := fun o => hb1.frozen (p := ⟨w.heap.size, o, none⟩) (by first | omega | (simp; done) | (simp; omega)); have hz_w1_wp1 : w.heap.size + 1 < w1.heap.size := (by have hs := hb1.size; (try simp at hs); omega); have hy_w1_wp1 : w.heap.size + 1 < w1.heap.size + 1 := (by omega); have hx_w1_wp1 : w.heap.size + 1 < w1.heap.size + 1 + 1 := (by omega); have hc_w1_wp1 := fun o => hb1.cell (p := ⟨w.heap.size + 1, o, none⟩) (by first | omega | (simp; done) | (simp; omega)); have hf_w1_wp1 := fun o => hb1.frozen (p := ⟨w.heap.size + 1, o, none⟩) (by first | omega | (simp; done) | (simp; omega)))
  refine (hd _ (by repeat' (first | (with_reducible exact Below.refl _ _) | (with_reducible assumption) | (with_reducible refine bl_alloc ?_ _) | (with_reducible refine bl_drew ?_) | (with_reducible refine bl_drewN ?_) | (with_reducible refine bl_setCell ?_ ?_ _) | (with_reducible refine bl_call ?_ (by with_reducible assumption)) | omega | (simp; done) | (simp; omega)))).mono ?_
  rintro e w2 ⟨rfl, hb2⟩
  have hz_w2_w : w.heap.size < w2.heap.size := (by have hs := hb2.size; (try simp at hs); omega)
  have hy_w2_w : w.heap.size < w2.heap.size + 1 := (by omega)
  have hx_w2_w : w.heap.size < w2.heap.size + 1 + 1 := (by omega)
  have hc_w2_w := fun o => hb2.cell (p := ⟨w.heap.size, o, none⟩) (by first | omega | (simp; done) | (simp; omega))
  have hf_w2_w := fun o => hb2.frozen (p := ⟨w.heap.size, o, none⟩) (by first | omega | (simp; done) | (simp; omega))
  have hz_w2_wp1 : w.heap.size + 1 < w2.heap.size := (by have hs := hb2.size; (try simp at hs); omega)
  have hy_w2_wp1 : w.heap.size + 1 < w2.heap.size + 1 := (by omega)
  have hx_w2_wp1 : w.heap.size + 1 < w2.heap.size + 1 + 1 := (by omega)
  have hc_w2_wp1 := fun o => hb2.cell (p := ⟨w.heap.size + 1, o, none⟩) (by first | omega | (simp; done) | (simp; omega))
  have hf_w2_wp1 := fun o => hb2.frozen (p := ⟨w.heap.size + 1, o, none⟩) (by first | omega | (simp; done) | (simp; omega))
  have hz_w2_w1 : w1.heap.size < w2.heap.size := (by have hs := hb2.size; (try simp at hs); omega)
  have hy_w2_w1 : w1.heap.size < w2.heap.size + 1 := (by omega)
  have hx_w2_w1 : w1.heap.size < w2.heap.size + 1 + 1 := (by omega)
  have hc_w2_w1 := fun o => hb2.cell (p := ⟨w1.heap.size, o, none⟩) (by first | omega | (simp; done) | (simp; omega))
  have hf_w2_w1 := fun o => hb2.frozen (p := ⟨w1.heap.size, o, none⟩) (by first | omega | (simp; done) | (simp; omega))
  go_wp2_with (go_at_call 100; (with_reducible refine (ball_no a b c _ h2).mono ?_); rintro e w3 ⟨rfl, hb3⟩; have hz_w3_w : w.heap.size < w3.heap.size := (by have hs := hb3.size; (try simp at hs); omega); have hy_w3_w : w.heap.size < w3.heap.size + 1 := (by omega); have hx_w3_w : w.heap.size < w3.heap.size + 1 + 1 := (by omega); have hc_w3_w := fun o => hb3.cell (p := ⟨w.heap.size, o, none⟩) (by first | omega | (simp; done) | (simp; omega)); have hf_w3_w := fun o => hb3.frozen (p := ⟨w.heap.size, o, none⟩) (by first | omega | (simp; done) | (simp; omega)); have hz_w3_wp1 : w.heap.size + 1 < w3.heap.size := (by have hs := hb3.size; (try simp at hs); omega); have hy_w3_wp1 : w.heap.size + 1 < w3.heap.size + 1 := (by omega); have hx_w3_wp1 : w.heap.size + 1 < w3.heap.size + 1 + 1 := (by omega); have hc_w3_wp1 := fun o => hb3.cell (p := ⟨w.heap.size + 1, o, none⟩) (by first | omega | (simp; done) | (simp; omega)); have hf_w3_wp1 := fun o => hb3.frozen (p := ⟨w.heap.size + 1, o, none⟩) (by first | omega | (simp; done) | (simp; omega)); have hz_w3_w1 : w1.heap.size < w3.heap.size := (by have hs := hb3.size; (try simp at hs); omega); have hy_w3_w1 : w1.heap.size < w3.heap.size + 1 := (by omega); have hx_w3_w1 : w1.heap.size < w3.heap.size + 1 + 1 := (by omega); have hc_w3_w1 := fun o => hb3.cell (p := ⟨w1.heap.size, o, none⟩) (by first | omega | (simp; done) | (simp; omega)); have hf_w3_w1 := fun o => hb3.frozen (p := ⟨w1.heap.size, o, none⟩) (by first | omega | (simp; done) | (simp; omega)))
  refine bodyPost_ret (by simp [results, Try.results104, go_sem, *]; first | done | rfl) rfl ?_
  exact ⟨rfl, (by repeat' (first | (with_reducible exact Below.refl _ _) | (with_reducible assumption) | (with_reducible refine bl_alloc ?_ _) | (with_reducible refine bl_drew ?_) | (with_reducible refine bl_drewN ?_) | (with_reducible refine bl_setCell ?_ ?_ _) | (with_reducible refine bl_call ?_ (by with_reducible assumption)) | omega | (simp; done) | (simp; omega)))⟩

set_option maxHeartbeats 1000000 in
theorem unary_err (k : Nat) (cap : Array Value) (x y r a b c q : Int) (w : World) (eg : ∀ args w, (callFunc k args).run Try.prog w = .ok (.enter k args) w)
    (h : Fits x y) (r0 : 0 ≤ r) (r1 : r ≤ 67108864) (hq : (q != 0) = true) (hd : Does k cap x y r w (.tuple #[.agg #[.int .i64 a, .int .i64 b, .int .i64 c], .int .i64 q])) :
    Calls Try.prog 104 #[.agg #[.complex .f64 (fl x) (fl y), .int .i64 r], .func (.func k) #[] cap] w fun e w' => e = .returned (.tuple #[.agg #[.complex .f64 0 0, .int .i64 0], .int .i64 q]) ∧ Below w.heap.size w w' := by
  go_enter Try.func104, Try.ntmps104
  go_wp2_with (go_at_call 119; (with_reducible refine (read_yes x y r _ h r0 r1).mono ?_); rintro e w1 ⟨rfl, hb1⟩; have hz_w1_w : w.heap.size < w1.heap.size := (by have hs := hb1.size; (try simp at hs); omega); have hy_w1_w : w.heap.size < w1.heap.size + 1 := (by omega); have hx_w1_w : w.heap.size < w1.heap.size + 1 + 1 := (by omega); have hc_w1_w := fun o => hb1.cell (p := ⟨w.heap.size, o, none⟩) (by first | omega | (simp; done) | (simp; omega)); have hf_w1_w := fun o => hb1.frozen (p := ⟨w.heap.size, o, none⟩) (by first | omega | (simp; done) | (simp; omega)); have hz_w1_wp1 : w.heap.size + 1 < w1.heap.size := (by have hs := hb1.size; (try simp at hs); omega); have hy_w1_wp1 : w.heap.size + 1 < w1.heap.size + 1 := (by omega); have hx_w1_wp1 : w.heap.size + 1 < w1.heap.size + 1 + 1 := (by omega); have hc_w1_wp1 := fun o => hb1.cell (p := ⟨w.heap.size + 1, o, none⟩) (by first | omega | (simp; done) | (simp; omega)); have hf_w1_wp1 := fun o => hb1.frozen (p := ⟨w.heap.size + 1, o, none⟩) (by first | omega | (simp; done) | (simp; omega)))
  refine (hd _ (by repeat' (first | (with_reducible exact Below.refl _ _) | (with_reducible assumption) | (with_reducible refine bl_alloc ?_ _) | (with_reducible refine bl_drew ?_) | (with_reducible refine bl_drewN ?_) | (with_reducible refine bl_setCell ?_ ?_ _) | (with_reducible refine bl_call ?_ (by with_reducible assumption)) | omega | (simp; done) | (simp; omega)))).mono ?_
  rintro e w2 ⟨rfl, hb2⟩
  have hz_w2_w : w.heap.size < w2.heap.size := (by have hs := hb2.size; (try simp at hs); omega)
  have hy_w2_w : w.heap.size < w2.heap.size + 1 := (by omega)
  have hx_w2_w : w.heap.size < w2.heap.size + 1 + 1 := (by omega)
  have hc_w2_w := fun o => hb2.cell (p := ⟨w.heap.size, o, none⟩) (by first | omega | (simp; done) | (simp; omega))
  have hf_w2_w := fun o => hb2.frozen (p := ⟨w.heap.size, o, none⟩) (by first | omega | (simp; done) | (simp; omega))
  have hz_w2_wp1 : w.heap.size + 1 < w2.heap.size := (by have hs := hb2.size; (try simp at hs); omega)
  have hy_w2_wp1 : w.heap.size + 1 < w2.heap.size + 1 := (by omega)
  have hx_w2_wp1 : w.heap.size + 1 < w2.heap.size + 1 + 1 := (by omega)
  have hc_w2_wp1 := fun o => hb2.cell (p := ⟨w.heap.size + 1, o, none⟩) (by first | omega | (simp; done) | (simp; omega))
  have hf_w2_wp1 := fun o => hb2.frozen (p := ⟨w.heap.size + 1, o, none⟩) (by first | omega | (simp; done) | (simp; omega))
  have hz_w2_w1 : w1.heap.size < w2.heap.size := (by have hs := hb2.size; (try simp at hs); omega)
  have hy_w2_w1 : w1.heap.size < w2.heap.size + 1 := (by omega)
  have hx_w2_w1 : w1.heap.size < w2.heap.size + 1 + 1 := (by omega)
  have hc_w2_w1 := fun o => hb2.cell (p := ⟨w1.heap.size, o, none⟩) (by first | omega | (simp; done) | (simp; omega))
  have hf_w2_w1 := fun o => hb2.frozen (p := ⟨w1.heap.size, o, none⟩) (by first | omega | (simp; done) | (simp; omega))
  go_wp2
  refine bodyPost_ret (by simp [results, Try.results104, go_sem, *]; first | done | rfl) rfl ?_
  exact ⟨rfl, (by repeat' (first | (with_reducible exact Below.refl _ _) | (with_reducible assumption) | (with_reducible refine bl_alloc ?_ _) | (with_reducible refine bl_drew ?_) | (with_reducible refine bl_drewN ?_) | (with_reducible refine bl_setCell ?_ ?_ _) | (with_reducible refine bl_call ?_ (by with_reducible assumption)) | omega | (simp; done) | (simp; omega)))⟩

/-- A ball that is not right. -/
theorem read_no (x y r : Int) (w : World) (f1 : Flo x) (f2 : Flo y) (h : ¬ (Fits x y ∧ 0 ≤ r ∧ r ≤ 67108864)) :
    ∃ a b, Calls Try.prog 119 #[.agg #[.complex .f64 (fl x) (fl y), .int .i64 r]] w fun e w' => e = .returned (.tuple #[.agg #[.int .i64 a, .int .i64 b, .int .i64 r], .int .i64 2]) ∧ Below w.heap.size w w' := by
  by_cases hf : Fits x y
  · exact ⟨x, y, read_no1 x y r w hf (by have : ¬ (0 ≤ r ∧ r ≤ 67108864) := fun h2 => h ⟨hf, h2⟩
                                         omega)⟩
  · exact ⟨0, 0, read_no2 x y r w f1 f2 hf⟩

set_option maxHeartbeats 1000000 in
theorem unary_bad (f : Value) (x y r : Int) (w : World) (f1 : Flo x) (f2 : Flo y) (h : ¬ (Fits x y ∧ 0 ≤ r ∧ r ≤ 67108864)) :
    Calls Try.prog 104 #[.agg #[.complex .f64 (fl x) (fl y), .int .i64 r], f] w fun e w' => e = .returned (.tuple #[.agg #[.complex .f64 0 0, .int .i64 0], .int .i64 2]) ∧ Below w.heap.size w w' := by
  go_enter Try.func104, Try.ntmps104
  go_wp2_with (go_at_call 119; obtain ⟨a, b, hr⟩ := read_no x y r _ f1 f2 h; (with_reducible refine hr.mono ?_); clear hr; rintro e w1 ⟨rfl, hb1⟩; have hz_w1_w : w.heap.size < w1.heap.size := (by have hs := hb1.size; (try simp at hs); omega); have hy_w1_w : w.heap.size < w1.heap.size + 1 := (by omega); have hx_w1_w : w.heap.size < w1.heap.size + 1 + 1 := (by omega); have hc_w1_w := fun o => hb1.cell (p := ⟨w.heap.size, o, none⟩) (by first | omega | (simp; done) | (simp; omega)); have hf_w1_w := fun o => hb1.frozen (p := ⟨w.heap.size, o, none⟩) (by first | omega | (simp; done) | (simp; omega)); have hz_w1_wp1 : w.heap.size + 1 < w1.heap.size := (by have hs := hb1.size; (try simp at hs); omega); have hy_w1_wp1 : w.heap.size + 1 < w1.heap.size + 1 := (by omega); have hx_w1_wp1 : w.heap.size + 1 < w1.heap.size + 1 + 1 := (by omega); have hc_w1_wp1 := fun o => hb1.cell (p := ⟨w.heap.size + 1, o, none⟩) (by first | omega | (simp; done) | (simp; omega)); have hf_w1_wp1 := fun o => hb1.frozen (p := ⟨w.heap.size + 1, o, none⟩) (by first | omega | (simp; done) | (simp; omega)))
  refine bodyPost_ret (by simp [results, Try.results104, go_sem, *]; first | done | rfl) rfl ?_
  exact ⟨rfl, (by repeat' (first | (with_reducible exact Below.refl _ _) | (with_reducible assumption) | (with_reducible refine bl_alloc ?_ _) | (with_reducible refine bl_drew ?_) | (with_reducible refine bl_drewN ?_) | (with_reducible refine bl_setCell ?_ ?_ _) | (with_reducible refine bl_call ?_ (by with_reducible assumption)) | omega | (simp; done) | (simp; omega)))⟩

/-- What the operation hands back for these two discs. -/
def Does2 (k : Nat) (cap : Array Value) (x y r x' y' r' : Int) (w : World) (v : Value) : Prop :=
  ∀ w1, Below w.heap.size w w1 → Calls Try.prog k (#[.agg #[.int .i64 x, .int .i64 y, .int .i64 r], .agg #[.int .i64 x', .int .i64 y', .int .i64 r']] ++ cap) w1 fun e w' => e = .returned v ∧ Below w1.heap.size w1 w'

set_option maxHeartbeats 1000000 in
/-- The inner function of an operation on two balls. -/
theorem inner_any (k : Nat) (x y r x' y' r' a b c q : Int) (w : World) (B1 B2 : Nat) (eg : ∀ args w, (callFunc k args).run Try.prog w = .ok (.enter k args) w) (hB1 : B1 < w.heap.size) (hB2 : B2 < w.heap.size)
    (k1 : w.cell? ⟨B1, 0, none⟩ = some (.func (.func k) #[] #[])) (k2 : w.cell? ⟨B2, 0, none⟩ = some (.int .i64 x)) (k3 : w.cell? ⟨B2, 1, none⟩ = some (.int .i64 y)) (k4 : w.cell? ⟨B2, 2, none⟩ = some (.int .i64 r))
    (hd : Does2 k #[] x y r x' y' r' w (.tuple #[.agg #[.int .i64 a, .int .i64 b, .int .i64 c], .int .i64 q])) :
    Calls Try.prog 128 #[.agg #[.int .i64 x', .int .i64 y', .int .i64 r'], .pointer (some ⟨B1, 0, none⟩), .pointer (some ⟨B2, 0, none⟩)] w fun e w' => e = .returned (.tuple #[.agg #[.int .i64 a, .int .i64 b, .int .i64 c], .int .i64 q]) ∧ Below w.heap.size w w' := by
  go_enter Try.func128, Try.ntmps128
  go_wp2_with fail
  refine (hd _ (by repeat' (first | (with_reducible exact Below.refl _ _) | (with_reducible assumption) | (with_reducible refine bl_alloc ?_ _) | (with_reducible refine bl_drew ?_) | (with_reducible refine bl_drewN ?_) | (with_reducible refine bl_setCell ?_ ?_ _) | (with_reducible refine bl_call ?_ (by with_reducible assumption)) | omega | (simp; done) | (simp; omega)))).mono ?_
  rintro e w2 ⟨rfl, hb2⟩
  have hz_w2_w : w.heap.size < w2.heap.size := (by have hs := hb2.size; (try simp at hs); omega)
  have hy_w2_w : w.heap.size < w2.heap.size + 1 := (by omega)
  have hx_w2_w : w.heap.size < w2.heap.size + 1 + 1 := (by omega)
  have hc_w2_w := fun o => hb2.cell (p := ⟨w.heap.size, o, none⟩) (by first | omega | (simp; done) | (simp; omega))
  have hf_w2_w := fun o => hb2.frozen (p := ⟨w.heap.size, o, none⟩) (by first | omega | (simp; done) | (simp; omega))
  have hz_w2_wp1 : w.heap.size + 1 < w2.heap.size := (by have hs := hb2.size; (try simp at hs); omega)
  have hy_w2_wp1 : w.heap.size + 1 < w2.heap.size + 1 := (by omega)
  have hx_w2_wp1 : w.heap.size + 1 < w2.heap.size + 1 + 1 := (by omega)
  have hc_w2_wp1 := fun o => hb2.cell (p := ⟨w.heap.size + 1, o, none⟩) (by first | omega | (simp; done) | (simp; omega))
  have hf_w2_wp1 := fun o => hb2.frozen (p := ⟨w.heap.size + 1, o, none⟩) (by first | omega | (simp; done) | (simp; omega))
  go_wp2
  refine bodyPost_ret (by simp [results, Try.results128, go_sem, *]; first | done | rfl) rfl ?_
  exact ⟨rfl, (by repeat' (first | (with_reducible exact Below.refl _ _) | (with_reducible assumption) | (with_reducible refine bl_alloc ?_ _) | (with_reducible refine bl_drew ?_) | (with_reducible refine bl_drewN ?_) | (with_reducible refine bl_setCell ?_ ?_ _) | (with_reducible refine bl_call ?_ (by with_reducible assumption)) | omega | (simp; done) | (simp; omega)))⟩
end Go.Proofs.Ytjgmjnjpgdadhaa
