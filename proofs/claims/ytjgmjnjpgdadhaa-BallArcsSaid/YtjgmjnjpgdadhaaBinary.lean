/- The frame of an operation on two balls. -/
import Derived.Test.YtjgmjnjpgdadhaaUnary
namespace Go.Proofs.Ytjgmjnjpgdadhaa
open Go.RowKit

/-- A right ball. -/
def Right (x y r : Int) : Prop := Fits x y ∧ 0 ≤ r ∧ r ≤ 67108864
theorem Right.flo {x y r : Int} (h : Right x y r) : Flo x ∧ Flo y := ⟨⟨by have := h.1.1; omega, by have := h.1.2.1; omega⟩, ⟨by have := h.1.2.2.1; omega, by have := h.1.2.2.2; omega⟩⟩

theorem Does2.later {k : Nat} {cap : Array Value} {x y r x' y' r' : Int} {w w3 : World} {v : Value} (h : Does2 k cap x y r x' y' r' w v) (hb : Below w.heap.size w w3) : Does2 k cap x y r x' y' r' w3 v :=
  fun w4 hb4 => h w4 (bl_call hb hb4)

theorem closure (w : World) (fn : Fn) (first cap : Array Value) : (Instr.makeFunc fn first cap).run Try.prog w = .ok (.func fn first cap) w := rfl

set_option maxHeartbeats 1000000 in
theorem binary_yes (x y r x' y' r' a b c : Int) (w : World) (k : Nat) (eg : ∀ args w, (callFunc k args).run Try.prog w = .ok (.enter k args) w) (h : Right x y r) (h' : Right x' y' r') (hd : Does2 k #[] x y r x' y' r' w (.tuple #[.agg #[.int .i64 a, .int .i64 b, .int .i64 c], .int .i64 0])) (h2 : Right a b c) :
    Calls Try.prog 66 #[.agg #[.complex .f64 (fl x) (fl y), .int .i64 r], .agg #[.complex .f64 (fl x') (fl y'), .int .i64 r'], .func (.func k) #[] #[]] w fun e w' => e = .returned (.tuple #[.agg #[.complex .f64 (fl a) (fl b), .int .i64 c], .int .i64 0]) ∧ Below w.heap.size w w' := by
  have hmf := closure
  go_enter Try.func66, Try.ntmps66
  go_wp2_with fail
  refine (read_yes x y r _ h.1 h.2.1 h.2.2).mono ?_
  rintro e w1 ⟨rfl, hb1⟩
  have hz_w1_w : w.heap.size < w1.heap.size := (by have hs := hb1.size; (try simp at hs); omega)
  have hy_w1_w : w.heap.size < w1.heap.size + 1 := (by omega)
  have hx_w1_w : w.heap.size < w1.heap.size + 1 + 1 := (by omega)
  have hc_w1_w := fun o => hb1.cell (p := ⟨w.heap.size, o, none⟩) (by first | omega | (simp; done) | (simp; omega))
  have hf_w1_w := fun o => hb1.frozen (p := ⟨w.heap.size, o, none⟩) (by first | omega | (simp; done) | (simp; omega))
  have hz_w1_wp1 : w.heap.size + 1 < w1.heap.size := (by have hs := hb1.size; (try simp at hs); omega)
  have hy_w1_wp1 : w.heap.size + 1 < w1.heap.size + 1 := (by omega)
  have hx_w1_wp1 : w.heap.size + 1 < w1.heap.size + 1 + 1 := (by omega)
  have hc_w1_wp1 := fun o => hb1.cell (p := ⟨w.heap.size + 1, o, none⟩) (by first | omega | (simp; done) | (simp; omega))
  have hf_w1_wp1 := fun o => hb1.frozen (p := ⟨w.heap.size + 1, o, none⟩) (by first | omega | (simp; done) | (simp; omega))
  have hz_w1_wp2 : w.heap.size + 1 + 1 < w1.heap.size := (by have hs := hb1.size; (try simp at hs); omega)
  have hy_w1_wp2 : w.heap.size + 1 + 1 < w1.heap.size + 1 := (by omega)
  have hx_w1_wp2 : w.heap.size + 1 + 1 < w1.heap.size + 1 + 1 := (by omega)
  have hc_w1_wp2 := fun o => hb1.cell (p := ⟨w.heap.size + 1 + 1, o, none⟩) (by first | omega | (simp; done) | (simp; omega))
  have hf_w1_wp2 := fun o => hb1.frozen (p := ⟨w.heap.size + 1 + 1, o, none⟩) (by first | omega | (simp; done) | (simp; omega))
  have hz_w1_wp3 : w.heap.size + 1 + 1 + 1 < w1.heap.size := (by have hs := hb1.size; (try simp at hs); omega)
  have hy_w1_wp3 : w.heap.size + 1 + 1 + 1 < w1.heap.size + 1 := (by omega)
  have hx_w1_wp3 : w.heap.size + 1 + 1 + 1 < w1.heap.size + 1 + 1 := (by omega)
  have hc_w1_wp3 := fun o => hb1.cell (p := ⟨w.heap.size + 1 + 1 + 1, o, none⟩) (by first | omega | (simp; done) | (simp; omega))
  have hf_w1_wp3 := fun o => hb1.frozen (p := ⟨w.heap.size + 1 + 1 + 1, o, none⟩) (by first | omega | (simp; done) | (simp; omega))
  go_wp2_with fail
  refine (unary_yes _ _ x' y' r' a b c _ (enters_of Try.func128 (by kernel_rfl) rfl) h'.1 h'.2.1 h'.2.2 (fun w3 hb3 => ?_) h2.1 h2.2.1 h2.2.2).mono ?_
  · have hs3 := hb3.size
    have u1 : w.heap.size + 1 + 1 < w3.heap.size := by simp at hs3; omega
    have u2 : w1.heap.size < w3.heap.size := by simp at hs3; omega
    refine inner_any k x y r x' y' r' a b c 0 w3 (w.heap.size + 1 + 1) w1.heap.size eg u1 u2 ?_ ?_ ?_ ?_ (hd.later ?_)
    · rw [hb3.cell (p := ⟨w.heap.size + 1 + 1, 0, none⟩) (by simp; omega)]; simp [*, go_sem]
    · rw [hb3.cell (p := ⟨w1.heap.size, 0, none⟩) (by simp)]; simp [*, go_sem]
    · rw [hb3.cell (p := ⟨w1.heap.size, 1, none⟩) (by simp)]; simp [*, go_sem]
    · rw [hb3.cell (p := ⟨w1.heap.size, 2, none⟩) (by simp)]; simp [*, go_sem]
    · exact (by repeat' (first | (with_reducible exact Below.refl _ _) | (with_reducible assumption) | (with_reducible refine bl_alloc ?_ _) | (with_reducible refine bl_drew ?_) | (with_reducible refine bl_drewN ?_) | (with_reducible refine bl_setCell ?_ ?_ _) | (with_reducible refine bl_call ?_ (by with_reducible assumption)) | omega | (simp; done) | (simp; omega)))
  · rintro e w2 ⟨rfl, hb2⟩
    have hz_w2_w : w.heap.size < w2.heap.size := (by have hs := hb2.size; (try simp at hs); omega)
    have hy_w2_w : w.heap.size < w2.heap.size + 1 := (by omega)
    have hx_w2_w : w.heap.size < w2.heap.size + 1 + 1 := (by omega)
    have hc_w2_w := fun o => hb2.cell (p := ⟨w.heap.size, o, none⟩) (by first | omega | (simp; done) | (simp; omega))
    have hf_w2_w := fun o => hb2.frozen (p := ⟨w.heap.size, o, none⟩) (by first | omega | (simp; done) | (simp; omega))
    have hz_w2_wp1 : w.heap.size + 1 < w2.heap.size := (by have hs := hb2.size; (try simp at hs); omega)
    have hy_w2_wp1 : w.heap.size + 1 < w2.heap.size + 1 := (by omega)
    have hx_w2_wp1 : w.heap.size + 1 < w2.heap.size + 1 + 1 := (by omega)
    have hc_w2_wp1 := fun o => hb2.cell (p := ⟨w.heap.size + 1, o, none⟩) (by first | omega | (simp; done) | (simp; omega))
    have hf_w2_wp1 := fun o => hb2.frozen (p := ⟨w.heap.size + 1, o, none⟩) (by first | omega | (simp; done) | (simp; omega))
    have hz_w2_wp2 : w.heap.size + 1 + 1 < w2.heap.size := (by have hs := hb2.size; (try simp at hs); omega)
    have hy_w2_wp2 : w.heap.size + 1 + 1 < w2.heap.size + 1 := (by omega)
    have hx_w2_wp2 : w.heap.size + 1 + 1 < w2.heap.size + 1 + 1 := (by omega)
    have hc_w2_wp2 := fun o => hb2.cell (p := ⟨w.heap.size + 1 + 1, o, none⟩) (by first | omega | (simp; done) | (simp; omega))
    have hf_w2_wp2 := fun o => hb2.frozen (p := ⟨w.heap.size + 1 + 1, o, none⟩) (by first | omega | (simp; done) | (simp; omega))
    have hz_w2_wp3 : w.heap.size + 1 + 1 + 1 < w2.heap.size := (by have hs := hb2.size; (try simp at hs); omega)
    have hy_w2_wp3 : w.heap.size + 1 + 1 + 1 < w2.heap.size + 1 := (by omega)
    have hx_w2_wp3 : w.heap.size + 1 + 1 + 1 < w2.heap.size + 1 + 1 := (by omega)
    have hc_w2_wp3 := fun o => hb2.cell (p := ⟨w.heap.size + 1 + 1 + 1, o, none⟩) (by first | omega | (simp; done) | (simp; omega))
    have hf_w2_wp3 := fun o => hb2.frozen (p := ⟨w.heap.size + 1 + 1 + 1, o, none⟩) (by first | omega | (simp; done) | (simp; omega))
    have hz_w2_w1 : w1.heap.size < w2.heap.size := (by have hs := hb2.size; (try simp at hs); omega)
    have hy_w2_w1 : w1.heap.size < w2.heap.size + 1 := (by omega)
    have hx_w2_w1 : w1.heap.size < w2.heap.size + 1 + 1 := (by omega)
    have hc_w2_w1 := fun o => hb2.cell (p := ⟨w1.heap.size, o, none⟩) (by first | omega | (simp; done) | (simp; omega))
    have hf_w2_w1 := fun o => hb2.frozen (p := ⟨w1.heap.size, o, none⟩) (by first | omega | (simp; done) | (simp; omega))
    go_wp2
    refine bodyPost_ret (by simp [results, Try.results66, go_sem, *]; first | done | rfl) rfl ?_
    exact ⟨rfl, (by repeat' (first | (with_reducible exact Below.refl _ _) | (with_reducible assumption) | (with_reducible refine bl_alloc ?_ _) | (with_reducible refine bl_drew ?_) | (with_reducible refine bl_drewN ?_) | (with_reducible refine bl_setCell ?_ ?_ _) | (with_reducible refine bl_call ?_ (by with_reducible assumption)) | omega | (simp; done) | (simp; omega)))⟩

set_option maxHeartbeats 1000000 in
theorem binary_large (x y r x' y' r' a b c : Int) (w : World) (k : Nat) (eg : ∀ args w, (callFunc k args).run Try.prog w = .ok (.enter k args) w) (h : Right x y r) (h' : Right x' y' r') (hd : Does2 k #[] x y r x' y' r' w (.tuple #[.agg #[.int .i64 a, .int .i64 b, .int .i64 c], .int .i64 0])) (h2 : ¬ Right a b c) :
    Calls Try.prog 66 #[.agg #[.complex .f64 (fl x) (fl y), .int .i64 r], .agg #[.complex .f64 (fl x') (fl y'), .int .i64 r'], .func (.func k) #[] #[]] w fun e w' => e = .returned (.tuple #[.agg #[.complex .f64 0 0, .int .i64 0], .int .i64 8]) ∧ Below w.heap.size w w' := by
  have hmf := closure
  go_enter Try.func66, Try.ntmps66
  go_wp2_with fail
  refine (read_yes x y r _ h.1 h.2.1 h.2.2).mono ?_
  rintro e w1 ⟨rfl, hb1⟩
  have hz_w1_w : w.heap.size < w1.heap.size := (by have hs := hb1.size; (try simp at hs); omega)
  have hy_w1_w : w.heap.size < w1.heap.size + 1 := (by omega)
  have hx_w1_w : w.heap.size < w1.heap.size + 1 + 1 := (by omega)
  have hc_w1_w := fun o => hb1.cell (p := ⟨w.heap.size, o, none⟩) (by first | omega | (simp; done) | (simp; omega))
  have hf_w1_w := fun o => hb1.frozen (p := ⟨w.heap.size, o, none⟩) (by first | omega | (simp; done) | (simp; omega))
  have hz_w1_wp1 : w.heap.size + 1 < w1.heap.size := (by have hs := hb1.size; (try simp at hs); omega)
  have hy_w1_wp1 : w.heap.size + 1 < w1.heap.size + 1 := (by omega)
  have hx_w1_wp1 : w.heap.size + 1 < w1.heap.size + 1 + 1 := (by omega)
  have hc_w1_wp1 := fun o => hb1.cell (p := ⟨w.heap.size + 1, o, none⟩) (by first | omega | (simp; done) | (simp; omega))
  have hf_w1_wp1 := fun o => hb1.frozen (p := ⟨w.heap.size + 1, o, none⟩) (by first | omega | (simp; done) | (simp; omega))
  have hz_w1_wp2 : w.heap.size + 1 + 1 < w1.heap.size := (by have hs := hb1.size; (try simp at hs); omega)
  have hy_w1_wp2 : w.heap.size + 1 + 1 < w1.heap.size + 1 := (by omega)
  have hx_w1_wp2 : w.heap.size + 1 + 1 < w1.heap.size + 1 + 1 := (by omega)
  have hc_w1_wp2 := fun o => hb1.cell (p := ⟨w.heap.size + 1 + 1, o, none⟩) (by first | omega | (simp; done) | (simp; omega))
  have hf_w1_wp2 := fun o => hb1.frozen (p := ⟨w.heap.size + 1 + 1, o, none⟩) (by first | omega | (simp; done) | (simp; omega))
  have hz_w1_wp3 : w.heap.size + 1 + 1 + 1 < w1.heap.size := (by have hs := hb1.size; (try simp at hs); omega)
  have hy_w1_wp3 : w.heap.size + 1 + 1 + 1 < w1.heap.size + 1 := (by omega)
  have hx_w1_wp3 : w.heap.size + 1 + 1 + 1 < w1.heap.size + 1 + 1 := (by omega)
  have hc_w1_wp3 := fun o => hb1.cell (p := ⟨w.heap.size + 1 + 1 + 1, o, none⟩) (by first | omega | (simp; done) | (simp; omega))
  have hf_w1_wp3 := fun o => hb1.frozen (p := ⟨w.heap.size + 1 + 1 + 1, o, none⟩) (by first | omega | (simp; done) | (simp; omega))
  go_wp2_with fail
  refine (unary_large _ _ x' y' r' a b c _ (enters_of Try.func128 (by kernel_rfl) rfl) h'.1 h'.2.1 h'.2.2 (fun w3 hb3 => ?_) h2).mono ?_
  · have hs3 := hb3.size
    have u1 : w.heap.size + 1 + 1 < w3.heap.size := by simp at hs3; omega
    have u2 : w1.heap.size < w3.heap.size := by simp at hs3; omega
    refine inner_any k x y r x' y' r' a b c 0 w3 (w.heap.size + 1 + 1) w1.heap.size eg u1 u2 ?_ ?_ ?_ ?_ (hd.later ?_)
    · rw [hb3.cell (p := ⟨w.heap.size + 1 + 1, 0, none⟩) (by simp; omega)]; simp [*, go_sem]
    · rw [hb3.cell (p := ⟨w1.heap.size, 0, none⟩) (by simp)]; simp [*, go_sem]
    · rw [hb3.cell (p := ⟨w1.heap.size, 1, none⟩) (by simp)]; simp [*, go_sem]
    · rw [hb3.cell (p := ⟨w1.heap.size, 2, none⟩) (by simp)]; simp [*, go_sem]
    · exact (by repeat' (first | (with_reducible exact Below.refl _ _) | (with_reducible assumption) | (with_reducible refine bl_alloc ?_ _) | (with_reducible refine bl_drew ?_) | (with_reducible refine bl_drewN ?_) | (with_reducible refine bl_setCell ?_ ?_ _) | (with_reducible refine bl_call ?_ (by with_reducible assumption)) | omega | (simp; done) | (simp; omega)))
  · rintro e w2 ⟨rfl, hb2⟩
    have hz_w2_w : w.heap.size < w2.heap.size := (by have hs := hb2.size; (try simp at hs); omega)
    have hy_w2_w : w.heap.size < w2.heap.size + 1 := (by omega)
    have hx_w2_w : w.heap.size < w2.heap.size + 1 + 1 := (by omega)
    have hc_w2_w := fun o => hb2.cell (p := ⟨w.heap.size, o, none⟩) (by first | omega | (simp; done) | (simp; omega))
    have hf_w2_w := fun o => hb2.frozen (p := ⟨w.heap.size, o, none⟩) (by first | omega | (simp; done) | (simp; omega))
    have hz_w2_wp1 : w.heap.size + 1 < w2.heap.size := (by have hs := hb2.size; (try simp at hs); omega)
    have hy_w2_wp1 : w.heap.size + 1 < w2.heap.size + 1 := (by omega)
    have hx_w2_wp1 : w.heap.size + 1 < w2.heap.size + 1 + 1 := (by omega)
    have hc_w2_wp1 := fun o => hb2.cell (p := ⟨w.heap.size + 1, o, none⟩) (by first | omega | (simp; done) | (simp; omega))
    have hf_w2_wp1 := fun o => hb2.frozen (p := ⟨w.heap.size + 1, o, none⟩) (by first | omega | (simp; done) | (simp; omega))
    have hz_w2_wp2 : w.heap.size + 1 + 1 < w2.heap.size := (by have hs := hb2.size; (try simp at hs); omega)
    have hy_w2_wp2 : w.heap.size + 1 + 1 < w2.heap.size + 1 := (by omega)
    have hx_w2_wp2 : w.heap.size + 1 + 1 < w2.heap.size + 1 + 1 := (by omega)
    have hc_w2_wp2 := fun o => hb2.cell (p := ⟨w.heap.size + 1 + 1, o, none⟩) (by first | omega | (simp; done) | (simp; omega))
    have hf_w2_wp2 := fun o => hb2.frozen (p := ⟨w.heap.size + 1 + 1, o, none⟩) (by first | omega | (simp; done) | (simp; omega))
    have hz_w2_wp3 : w.heap.size + 1 + 1 + 1 < w2.heap.size := (by have hs := hb2.size; (try simp at hs); omega)
    have hy_w2_wp3 : w.heap.size + 1 + 1 + 1 < w2.heap.size + 1 := (by omega)
    have hx_w2_wp3 : w.heap.size + 1 + 1 + 1 < w2.heap.size + 1 + 1 := (by omega)
    have hc_w2_wp3 := fun o => hb2.cell (p := ⟨w.heap.size + 1 + 1 + 1, o, none⟩) (by first | omega | (simp; done) | (simp; omega))
    have hf_w2_wp3 := fun o => hb2.frozen (p := ⟨w.heap.size + 1 + 1 + 1, o, none⟩) (by first | omega | (simp; done) | (simp; omega))
    have hz_w2_w1 : w1.heap.size < w2.heap.size := (by have hs := hb2.size; (try simp at hs); omega)
    have hy_w2_w1 : w1.heap.size < w2.heap.size + 1 := (by omega)
    have hx_w2_w1 : w1.heap.size < w2.heap.size + 1 + 1 := (by omega)
    have hc_w2_w1 := fun o => hb2.cell (p := ⟨w1.heap.size, o, none⟩) (by first | omega | (simp; done) | (simp; omega))
    have hf_w2_w1 := fun o => hb2.frozen (p := ⟨w1.heap.size, o, none⟩) (by first | omega | (simp; done) | (simp; omega))
    go_wp2
    refine bodyPost_ret (by simp [results, Try.results66, go_sem, *]; first | done | rfl) rfl ?_
    exact ⟨rfl, (by repeat' (first | (with_reducible exact Below.refl _ _) | (with_reducible assumption) | (with_reducible refine bl_alloc ?_ _) | (with_reducible refine bl_drew ?_) | (with_reducible refine bl_drewN ?_) | (with_reducible refine bl_setCell ?_ ?_ _) | (with_reducible refine bl_call ?_ (by with_reducible assumption)) | omega | (simp; done) | (simp; omega)))⟩

set_option maxHeartbeats 1000000 in
theorem binary_err (x y r x' y' r' a b c q : Int) (w : World) (k : Nat) (eg : ∀ args w, (callFunc k args).run Try.prog w = .ok (.enter k args) w) (h : Right x y r) (h' : Right x' y' r') (hq : (q != 0) = true) (hd : Does2 k #[] x y r x' y' r' w (.tuple #[.agg #[.int .i64 a, .int .i64 b, .int .i64 c], .int .i64 q])) :
    Calls Try.prog 66 #[.agg #[.complex .f64 (fl x) (fl y), .int .i64 r], .agg #[.complex .f64 (fl x') (fl y'), .int .i64 r'], .func (.func k) #[] #[]] w fun e w' => e = .returned (.tuple #[.agg #[.complex .f64 0 0, .int .i64 0], .int .i64 q]) ∧ Below w.heap.size w w' := by
  have hmf := closure
  go_enter Try.func66, Try.ntmps66
  go_wp2_with fail
  refine (read_yes x y r _ h.1 h.2.1 h.2.2).mono ?_
  rintro e w1 ⟨rfl, hb1⟩
  have hz_w1_w : w.heap.size < w1.heap.size := (by have hs := hb1.size; (try simp at hs); omega)
  have hy_w1_w : w.heap.size < w1.heap.size + 1 := (by omega)
  have hx_w1_w : w.heap.size < w1.heap.size + 1 + 1 := (by omega)
  have hc_w1_w := fun o => hb1.cell (p := ⟨w.heap.size, o, none⟩) (by first | omega | (simp; done) | (simp; omega))
  have hf_w1_w := fun o => hb1.frozen (p := ⟨w.heap.size, o, none⟩) (by first | omega | (simp; done) | (simp; omega))
  have hz_w1_wp1 : w.heap.size + 1 < w1.heap.size := (by have hs := hb1.size; (try simp at hs); omega)
  have hy_w1_wp1 : w.heap.size + 1 < w1.heap.size + 1 := (by omega)
  have hx_w1_wp1 : w.heap.size + 1 < w1.heap.size + 1 + 1 := (by omega)
  have hc_w1_wp1 := fun o => hb1.cell (p := ⟨w.heap.size + 1, o, none⟩) (by first | omega | (simp; done) | (simp; omega))
  have hf_w1_wp1 := fun o => hb1.frozen (p := ⟨w.heap.size + 1, o, none⟩) (by first | omega | (simp; done) | (simp; omega))
  have hz_w1_wp2 : w.heap.size + 1 + 1 < w1.heap.size := (by have hs := hb1.size; (try simp at hs); omega)
  have hy_w1_wp2 : w.heap.size + 1 + 1 < w1.heap.size + 1 := (by omega)
  have hx_w1_wp2 : w.heap.size + 1 + 1 < w1.heap.size + 1 + 1 := (by omega)
  have hc_w1_wp2 := fun o => hb1.cell (p := ⟨w.heap.size + 1 + 1, o, none⟩) (by first | omega | (simp; done) | (simp; omega))
  have hf_w1_wp2 := fun o => hb1.frozen (p := ⟨w.heap.size + 1 + 1, o, none⟩) (by first | omega | (simp; done) | (simp; omega))
  have hz_w1_wp3 : w.heap.size + 1 + 1 + 1 < w1.heap.size := (by have hs := hb1.size; (try simp at hs); omega)
  have hy_w1_wp3 : w.heap.size + 1 + 1 + 1 < w1.heap.size + 1 := (by omega)
  have hx_w1_wp3 : w.heap.size + 1 + 1 + 1 < w1.heap.size + 1 + 1 := (by omega)
  have hc_w1_wp3 := fun o => hb1.cell (p := ⟨w.heap.size + 1 + 1 + 1, o, none⟩) (by first | omega | (simp; done) | (simp; omega))
  have hf_w1_wp3 := fun o => hb1.frozen (p := ⟨w.heap.size + 1 + 1 + 1, o, none⟩) (by first | omega | (simp; done) | (simp; omega))
  go_wp2_with fail
  refine (unary_err _ _ x' y' r' a b c q _ (enters_of Try.func128 (by kernel_rfl) rfl) h'.1 h'.2.1 h'.2.2 hq (fun w3 hb3 => ?_)).mono ?_
  · have hs3 := hb3.size
    have u1 : w.heap.size + 1 + 1 < w3.heap.size := by simp at hs3; omega
    have u2 : w1.heap.size < w3.heap.size := by simp at hs3; omega
    refine inner_any k x y r x' y' r' a b c q w3 (w.heap.size + 1 + 1) w1.heap.size eg u1 u2 ?_ ?_ ?_ ?_ (hd.later ?_)
    · rw [hb3.cell (p := ⟨w.heap.size + 1 + 1, 0, none⟩) (by simp; omega)]; simp [*, go_sem]
    · rw [hb3.cell (p := ⟨w1.heap.size, 0, none⟩) (by simp)]; simp [*, go_sem]
    · rw [hb3.cell (p := ⟨w1.heap.size, 1, none⟩) (by simp)]; simp [*, go_sem]
    · rw [hb3.cell (p := ⟨w1.heap.size, 2, none⟩) (by simp)]; simp [*, go_sem]
    · exact (by repeat' (first | (with_reducible exact Below.refl _ _) | (with_reducible assumption) | (with_reducible refine bl_alloc ?_ _) | (with_reducible refine bl_drew ?_) | (with_reducible refine bl_drewN ?_) | (with_reducible refine bl_setCell ?_ ?_ _) | (with_reducible refine bl_call ?_ (by with_reducible assumption)) | omega | (simp; done) | (simp; omega)))
  · rintro e w2 ⟨rfl, hb2⟩
    have hz_w2_w : w.heap.size < w2.heap.size := (by have hs := hb2.size; (try simp at hs); omega)
    have hy_w2_w : w.heap.size < w2.heap.size + 1 := (by omega)
    have hx_w2_w : w.heap.size < w2.heap.size + 1 + 1 := (by omega)
    have hc_w2_w := fun o => hb2.cell (p := ⟨w.heap.size, o, none⟩) (by first | omega | (simp; done) | (simp; omega))
    have hf_w2_w := fun o => hb2.frozen (p := ⟨w.heap.size, o, none⟩) (by first | omega | (simp; done) | (simp; omega))
    have hz_w2_wp1 : w.heap.size + 1 < w2.heap.size := (by have hs := hb2.size; (try simp at hs); omega)
    have hy_w2_wp1 : w.heap.size + 1 < w2.heap.size + 1 := (by omega)
    have hx_w2_wp1 : w.heap.size + 1 < w2.heap.size + 1 + 1 := (by omega)
    have hc_w2_wp1 := fun o => hb2.cell (p := ⟨w.heap.size + 1, o, none⟩) (by first | omega | (simp; done) | (simp; omega))
    have hf_w2_wp1 := fun o => hb2.frozen (p := ⟨w.heap.size + 1, o, none⟩) (by first | omega | (simp; done) | (simp; omega))
    have hz_w2_wp2 : w.heap.size + 1 + 1 < w2.heap.size := (by have hs := hb2.size; (try simp at hs); omega)
    have hy_w2_wp2 : w.heap.size + 1 + 1 < w2.heap.size + 1 := (by omega)
    have hx_w2_wp2 : w.heap.size + 1 + 1 < w2.heap.size + 1 + 1 := (by omega)
    have hc_w2_wp2 := fun o => hb2.cell (p := ⟨w.heap.size + 1 + 1, o, none⟩) (by first | omega | (simp; done) | (simp; omega))
    have hf_w2_wp2 := fun o => hb2.frozen (p := ⟨w.heap.size + 1 + 1, o, none⟩) (by first | omega | (simp; done) | (simp; omega))
    have hz_w2_wp3 : w.heap.size + 1 + 1 + 1 < w2.heap.size := (by have hs := hb2.size; (try simp at hs); omega)
    have hy_w2_wp3 : w.heap.size + 1 + 1 + 1 < w2.heap.size + 1 := (by omega)
    have hx_w2_wp3 : w.heap.size + 1 + 1 + 1 < w2.heap.size + 1 + 1 := (by omega)
    have hc_w2_wp3 := fun o => hb2.cell (p := ⟨w.heap.size + 1 + 1 + 1, o, none⟩) (by first | omega | (simp; done) | (simp; omega))
    have hf_w2_wp3 := fun o => hb2.frozen (p := ⟨w.heap.size + 1 + 1 + 1, o, none⟩) (by first | omega | (simp; done) | (simp; omega))
    have hz_w2_w1 : w1.heap.size < w2.heap.size := (by have hs := hb2.size; (try simp at hs); omega)
    have hy_w2_w1 : w1.heap.size < w2.heap.size + 1 := (by omega)
    have hx_w2_w1 : w1.heap.size < w2.heap.size + 1 + 1 := (by omega)
    have hc_w2_w1 := fun o => hb2.cell (p := ⟨w1.heap.size, o, none⟩) (by first | omega | (simp; done) | (simp; omega))
    have hf_w2_w1 := fun o => hb2.frozen (p := ⟨w1.heap.size, o, none⟩) (by first | omega | (simp; done) | (simp; omega))
    go_wp2
    refine bodyPost_ret (by simp [results, Try.results66, go_sem, *]; first | done | rfl) rfl ?_
    exact ⟨rfl, (by repeat' (first | (with_reducible exact Below.refl _ _) | (with_reducible assumption) | (with_reducible refine bl_alloc ?_ _) | (with_reducible refine bl_drew ?_) | (with_reducible refine bl_drewN ?_) | (with_reducible refine bl_setCell ?_ ?_ _) | (with_reducible refine bl_call ?_ (by with_reducible assumption)) | omega | (simp; done) | (simp; omega)))⟩

set_option maxHeartbeats 1000000 in
theorem binary_bad2 (x y r x' y' r' : Int) (w : World) (f : Value) (hf : f.oneCell' = true) (h : Right x y r) (g1 : Flo x') (g2 : Flo y') (h' : ¬ Right x' y' r') :
    Calls Try.prog 66 #[.agg #[.complex .f64 (fl x) (fl y), .int .i64 r], .agg #[.complex .f64 (fl x') (fl y'), .int .i64 r'], f] w fun e w' => e = .returned (.tuple #[.agg #[.complex .f64 0 0, .int .i64 0], .int .i64 2]) ∧ Below w.heap.size w w' := by
  have hmf := closure
  go_enter Try.func66, Try.ntmps66
  go_wp2_with fail
  refine (read_yes x y r _ h.1 h.2.1 h.2.2).mono ?_
  rintro e w1 ⟨rfl, hb1⟩
  have hz_w1_w : w.heap.size < w1.heap.size := (by have hs := hb1.size; (try simp at hs); omega)
  have hy_w1_w : w.heap.size < w1.heap.size + 1 := (by omega)
  have hx_w1_w : w.heap.size < w1.heap.size + 1 + 1 := (by omega)
  have hc_w1_w := fun o => hb1.cell (p := ⟨w.heap.size, o, none⟩) (by first | omega | (simp; done) | (simp; omega))
  have hf_w1_w := fun o => hb1.frozen (p := ⟨w.heap.size, o, none⟩) (by first | omega | (simp; done) | (simp; omega))
  have hz_w1_wp1 : w.heap.size + 1 < w1.heap.size := (by have hs := hb1.size; (try simp at hs); omega)
  have hy_w1_wp1 : w.heap.size + 1 < w1.heap.size + 1 := (by omega)
  have hx_w1_wp1 : w.heap.size + 1 < w1.heap.size + 1 + 1 := (by omega)
  have hc_w1_wp1 := fun o => hb1.cell (p := ⟨w.heap.size + 1, o, none⟩) (by first | omega | (simp; done) | (simp; omega))
  have hf_w1_wp1 := fun o => hb1.frozen (p := ⟨w.heap.size + 1, o, none⟩) (by first | omega | (simp; done) | (simp; omega))
  have hz_w1_wp2 : w.heap.size + 1 + 1 < w1.heap.size := (by have hs := hb1.size; (try simp at hs); omega)
  have hy_w1_wp2 : w.heap.size + 1 + 1 < w1.heap.size + 1 := (by omega)
  have hx_w1_wp2 : w.heap.size + 1 + 1 < w1.heap.size + 1 + 1 := (by omega)
  have hc_w1_wp2 := fun o => hb1.cell (p := ⟨w.heap.size + 1 + 1, o, none⟩) (by first | omega | (simp; done) | (simp; omega))
  have hf_w1_wp2 := fun o => hb1.frozen (p := ⟨w.heap.size + 1 + 1, o, none⟩) (by first | omega | (simp; done) | (simp; omega))
  have hz_w1_wp3 : w.heap.size + 1 + 1 + 1 < w1.heap.size := (by have hs := hb1.size; (try simp at hs); omega)
  have hy_w1_wp3 : w.heap.size + 1 + 1 + 1 < w1.heap.size + 1 := (by omega)
  have hx_w1_wp3 : w.heap.size + 1 + 1 + 1 < w1.heap.size + 1 + 1 := (by omega)
  have hc_w1_wp3 := fun o => hb1.cell (p := ⟨w.heap.size + 1 + 1 + 1, o, none⟩) (by first | omega | (simp; done) | (simp; omega))
  have hf_w1_wp3 := fun o => hb1.frozen (p := ⟨w.heap.size + 1 + 1 + 1, o, none⟩) (by first | omega | (simp; done) | (simp; omega))
  go_wp2_with fail
  refine (unary_bad _ x' y' r' _ g1 g2 h').mono ?_
  rintro e w2 ⟨rfl, hb2⟩
  have hz_w2_w : w.heap.size < w2.heap.size := (by have hs := hb2.size; (try simp at hs); omega)
  have hy_w2_w : w.heap.size < w2.heap.size + 1 := (by omega)
  have hx_w2_w : w.heap.size < w2.heap.size + 1 + 1 := (by omega)
  have hc_w2_w := fun o => hb2.cell (p := ⟨w.heap.size, o, none⟩) (by first | omega | (simp; done) | (simp; omega))
  have hf_w2_w := fun o => hb2.frozen (p := ⟨w.heap.size, o, none⟩) (by first | omega | (simp; done) | (simp; omega))
  have hz_w2_wp1 : w.heap.size + 1 < w2.heap.size := (by have hs := hb2.size; (try simp at hs); omega)
  have hy_w2_wp1 : w.heap.size + 1 < w2.heap.size + 1 := (by omega)
  have hx_w2_wp1 : w.heap.size + 1 < w2.heap.size + 1 + 1 := (by omega)
  have hc_w2_wp1 := fun o => hb2.cell (p := ⟨w.heap.size + 1, o, none⟩) (by first | omega | (simp; done) | (simp; omega))
  have hf_w2_wp1 := fun o => hb2.frozen (p := ⟨w.heap.size + 1, o, none⟩) (by first | omega | (simp; done) | (simp; omega))
  have hz_w2_wp2 : w.heap.size + 1 + 1 < w2.heap.size := (by have hs := hb2.size; (try simp at hs); omega)
  have hy_w2_wp2 : w.heap.size + 1 + 1 < w2.heap.size + 1 := (by omega)
  have hx_w2_wp2 : w.heap.size + 1 + 1 < w2.heap.size + 1 + 1 := (by omega)
  have hc_w2_wp2 := fun o => hb2.cell (p := ⟨w.heap.size + 1 + 1, o, none⟩) (by first | omega | (simp; done) | (simp; omega))
  have hf_w2_wp2 := fun o => hb2.frozen (p := ⟨w.heap.size + 1 + 1, o, none⟩) (by first | omega | (simp; done) | (simp; omega))
  have hz_w2_wp3 : w.heap.size + 1 + 1 + 1 < w2.heap.size := (by have hs := hb2.size; (try simp at hs); omega)
  have hy_w2_wp3 : w.heap.size + 1 + 1 + 1 < w2.heap.size + 1 := (by omega)
  have hx_w2_wp3 : w.heap.size + 1 + 1 + 1 < w2.heap.size + 1 + 1 := (by omega)
  have hc_w2_wp3 := fun o => hb2.cell (p := ⟨w.heap.size + 1 + 1 + 1, o, none⟩) (by first | omega | (simp; done) | (simp; omega))
  have hf_w2_wp3 := fun o => hb2.frozen (p := ⟨w.heap.size + 1 + 1 + 1, o, none⟩) (by first | omega | (simp; done) | (simp; omega))
  have hz_w2_w1 : w1.heap.size < w2.heap.size := (by have hs := hb2.size; (try simp at hs); omega)
  have hy_w2_w1 : w1.heap.size < w2.heap.size + 1 := (by omega)
  have hx_w2_w1 : w1.heap.size < w2.heap.size + 1 + 1 := (by omega)
  have hc_w2_w1 := fun o => hb2.cell (p := ⟨w1.heap.size, o, none⟩) (by first | omega | (simp; done) | (simp; omega))
  have hf_w2_w1 := fun o => hb2.frozen (p := ⟨w1.heap.size, o, none⟩) (by first | omega | (simp; done) | (simp; omega))
  go_wp2
  refine bodyPost_ret (by simp [results, Try.results66, go_sem, *]; first | done | rfl) rfl ?_
  exact ⟨rfl, (by repeat' (first | (with_reducible exact Below.refl _ _) | (with_reducible assumption) | (with_reducible refine bl_alloc ?_ _) | (with_reducible refine bl_drew ?_) | (with_reducible refine bl_drewN ?_) | (with_reducible refine bl_setCell ?_ ?_ _) | (with_reducible refine bl_call ?_ (by with_reducible assumption)) | omega | (simp; done) | (simp; omega)))⟩

set_option maxHeartbeats 1000000 in
theorem binary_bad1 (x y r x' y' r' : Int) (w : World) (f : Value) (hf : f.oneCell' = true) (f1 : Flo x) (f2 : Flo y) (h : ¬ Right x y r) :
    Calls Try.prog 66 #[.agg #[.complex .f64 (fl x) (fl y), .int .i64 r], .agg #[.complex .f64 (fl x') (fl y'), .int .i64 r'], f] w fun e w' => e = .returned (.tuple #[.agg #[.complex .f64 0 0, .int .i64 0], .int .i64 2]) ∧ Below w.heap.size w w' := by
  have hmf := closure
  go_enter Try.func66, Try.ntmps66
  go_wp2_with fail
  obtain ⟨a, b, hr⟩ := read_no x y r _ f1 f2 h
  refine hr.mono ?_
  clear hr
  rintro e w1 ⟨rfl, hb1⟩
  have hz_w1_w : w.heap.size < w1.heap.size := (by have hs := hb1.size; (try simp at hs); omega)
  have hy_w1_w : w.heap.size < w1.heap.size + 1 := (by omega)
  have hx_w1_w : w.heap.size < w1.heap.size + 1 + 1 := (by omega)
  have hc_w1_w := fun o => hb1.cell (p := ⟨w.heap.size, o, none⟩) (by first | omega | (simp; done) | (simp; omega))
  have hf_w1_w := fun o => hb1.frozen (p := ⟨w.heap.size, o, none⟩) (by first | omega | (simp; done) | (simp; omega))
  have hz_w1_wp1 : w.heap.size + 1 < w1.heap.size := (by have hs := hb1.size; (try simp at hs); omega)
  have hy_w1_wp1 : w.heap.size + 1 < w1.heap.size + 1 := (by omega)
  have hx_w1_wp1 : w.heap.size + 1 < w1.heap.size + 1 + 1 := (by omega)
  have hc_w1_wp1 := fun o => hb1.cell (p := ⟨w.heap.size + 1, o, none⟩) (by first | omega | (simp; done) | (simp; omega))
  have hf_w1_wp1 := fun o => hb1.frozen (p := ⟨w.heap.size + 1, o, none⟩) (by first | omega | (simp; done) | (simp; omega))
  have hz_w1_wp2 : w.heap.size + 1 + 1 < w1.heap.size := (by have hs := hb1.size; (try simp at hs); omega)
  have hy_w1_wp2 : w.heap.size + 1 + 1 < w1.heap.size + 1 := (by omega)
  have hx_w1_wp2 : w.heap.size + 1 + 1 < w1.heap.size + 1 + 1 := (by omega)
  have hc_w1_wp2 := fun o => hb1.cell (p := ⟨w.heap.size + 1 + 1, o, none⟩) (by first | omega | (simp; done) | (simp; omega))
  have hf_w1_wp2 := fun o => hb1.frozen (p := ⟨w.heap.size + 1 + 1, o, none⟩) (by first | omega | (simp; done) | (simp; omega))
  have hz_w1_wp3 : w.heap.size + 1 + 1 + 1 < w1.heap.size := (by have hs := hb1.size; (try simp at hs); omega)
  have hy_w1_wp3 : w.heap.size + 1 + 1 + 1 < w1.heap.size + 1 := (by omega)
  have hx_w1_wp3 : w.heap.size + 1 + 1 + 1 < w1.heap.size + 1 + 1 := (by omega)
  have hc_w1_wp3 := fun o => hb1.cell (p := ⟨w.heap.size + 1 + 1 + 1, o, none⟩) (by first | omega | (simp; done) | (simp; omega))
  have hf_w1_wp3 := fun o => hb1.frozen (p := ⟨w.heap.size + 1 + 1 + 1, o, none⟩) (by first | omega | (simp; done) | (simp; omega))
  go_wp2
  refine bodyPost_ret (by simp [results, Try.results66, go_sem, *]; first | done | rfl) rfl ?_
  exact ⟨rfl, (by repeat' (first | (with_reducible exact Below.refl _ _) | (with_reducible assumption) | (with_reducible refine bl_alloc ?_ _) | (with_reducible refine bl_drew ?_) | (with_reducible refine bl_drewN ?_) | (with_reducible refine bl_setCell ?_ ?_ _) | (with_reducible refine bl_call ?_ (by with_reducible assumption)) | omega | (simp; done) | (simp; omega)))⟩

end Go.Proofs.Ytjgmjnjpgdadhaa
