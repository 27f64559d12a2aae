/- What operations on balls hand back, as plain functions; the public operations. -/
import Derived.Test.YtjgmjnjpgdadhaaBinary
namespace Go.Proofs.Ytjgmjnjpgdadhaa
open Go.RowKit

instance (x y r : Int) : Decidable (Right x y r) := by unfold Right Fits; infer_instance

/-- A result: an error, or a ball. -/
inductive Res where
  | bad (q : Int)
  | good (a b c : Int)
  deriving DecidableEq

/-- Its value. -/
def out : Res → Value
  | .bad q => .tuple #[.agg #[.complex .f64 0 0, .int .i64 0], .int .i64 q]
  | .good a b c => .tuple #[.agg #[.complex .f64 (fl a) (fl b), .int .i64 c], .int .i64 0]

/-- The end of an operation. -/
def fin (a b c q : Int) : Res := if q ≠ 0 then .bad q else if Right a b c then .good a b c else .bad 8
def onOne (x y r : Int) (res : Res) : Res := if Right x y r then res else .bad 2
def onTwo (x y r x' y' r' : Int) (res : Res) : Res := if Right x y r then (if Right x' y' r' then res else .bad 2) else .bad 2

theorem unary_any (k : Nat) (cap : Array Value) (x y r a b c q : Int) (w : World) (f1 : Flo x) (f2 : Flo y) (eg : ∀ args w, (callFunc k args).run Try.prog w = .ok (.enter k args) w)
    (hd : Right x y r → Does k cap x y r w (.tuple #[.agg #[.int .i64 a, .int .i64 b, .int .i64 c], .int .i64 q])) :
    Calls Try.prog 104 #[.agg #[.complex .f64 (fl x) (fl y), .int .i64 r], .func (.func k) #[] cap] w fun e w' => e = .returned (out (onOne x y r (fin a b c q))) ∧ Below w.heap.size w w' := by
  unfold onOne
  by_cases h : Right x y r
  · rw [if_pos h]
    unfold fin
    by_cases hq : q = 0
    · subst hq
      rw [if_neg (by simp)]
      by_cases h2 : Right a b c
      · rw [if_pos h2]; exact unary_yes k cap x y r a b c w eg h.1 h.2.1 h.2.2 (hd h) h2.1 h2.2.1 h2.2.2
      · rw [if_neg h2]; exact unary_large k cap x y r a b c w eg h.1 h.2.1 h.2.2 (hd h) h2
    · rw [if_pos hq]; exact unary_err k cap x y r a b c q w eg h.1 h.2.1 h.2.2 (by simpa using hq) (hd h)
  · rw [if_neg h]; exact unary_bad _ x y r w f1 f2 h

theorem binary_any (k : Nat) (x y r x' y' r' a b c q : Int) (w : World) (f1 : Flo x) (f2 : Flo y) (g1 : Flo x') (g2 : Flo y') (eg : ∀ args w, (callFunc k args).run Try.prog w = .ok (.enter k args) w)
    (hd : Right x y r → Right x' y' r' → Does2 k #[] x y r x' y' r' w (.tuple #[.agg #[.int .i64 a, .int .i64 b, .int .i64 c], .int .i64 q])) :
    Calls Try.prog 66 #[.agg #[.complex .f64 (fl x) (fl y), .int .i64 r], .agg #[.complex .f64 (fl x') (fl y'), .int .i64 r'], .func (.func k) #[] #[]] w fun e w' => e = .returned (out (onTwo x y r x' y' r' (fin a b c q))) ∧ Below w.heap.size w w' := by
  unfold onTwo
  by_cases h : Right x y r
  · rw [if_pos h]
    by_cases h' : Right x' y' r'
    · rw [if_pos h']
      unfold fin
      by_cases hq : q = 0
      · subst hq
        rw [if_neg (by simp)]
        by_cases h2 : Right a b c
        · rw [if_pos h2]; exact binary_yes x y r x' y' r' a b c w k eg h h' (hd h h') h2
        · rw [if_neg h2]; exact binary_large x y r x' y' r' a b c w k eg h h' (hd h h') h2
      · rw [if_pos hq]; exact binary_err x y r x' y' r' a b c q w k eg h h' (by simpa using hq) (hd h h')
    · rw [if_neg h']; exact binary_bad2 x y r x' y' r' w _ rfl h g1 g2 h'
  · rw [if_neg h]; exact binary_bad1 x y r x' y' r' w _ rfl f1 f2 h

theorem Right.sh {x y r : Int} (h : Right x y r) : Sh x ∧ Sh y := ⟨⟨by have := h.1.1; omega, by have := h.1.2.1; omega⟩, ⟨by have := h.1.2.2.1; omega, by have := h.1.2.2.2; omega⟩⟩

/-- The product. -/
def timesR (x y r x' y' r' : Int) : Int := -(-(rtu (x * x + y * y) * r' + rtu (x' * x' + y' * y') * r + r * r') / 1048576) + b1 (inx (x * x' - y * y') || inx (x * y' + y * x'))
def timesM (x y r x' y' r' : Int) : Res := onTwo x y r x' y' r' (fin (rnd (x * x' - y * y')) (rnd (x * y' + y * x')) (timesR x y r x' y' r') 0)

set_option maxHeartbeats 1000000 in
theorem Times_any (x y r x' y' r' : Int) (w : World) (f1 : Flo x) (f2 : Flo y) (g1 : Flo x') (g2 : Flo y') :
    Calls Try.prog 16 #[.agg #[.complex .f64 (fl x) (fl y), .int .i64 r], .agg #[.complex .f64 (fl x') (fl y'), .int .i64 r']] w fun e w' => e = .returned (out (timesM x y r x' y' r')) ∧ Below w.heap.size w w' := by
  have hd : ∀ w, Right x y r → Right x' y' r' → Does2 67 #[] x y r x' y' r' w (.tuple #[.agg #[.int .i64 (rnd (x * x' - y * y')), .int .i64 (rnd (x * y' + y * x')), .int .i64 (timesR x y r x' y' r')], .int .i64 0]) := fun w h h' w1 _ => by
    rw [Array.append_empty]
    exact times1_any x y r x' y' r' w1 h.sh.1 h.sh.2 h'.sh.1 h'.sh.2 h.2.1 h.2.2 h'.2.1 h'.2.2
  obtain ⟨res, hres⟩ : ∃ res, timesM x y r x' y' r' = res := ⟨_, rfl⟩
  have Hres := Lib.hid hres
  rw [hres]
  clear hres
  cases res
  all_goals
    go_enter Try.func16, Try.ntmps16
    go_wp2_with fail
    refine (binary_any _ x y r x' y' r' _ _ _ _ _ f1 f2 g1 g2 (enters_of Try.func67 (by kernel_rfl) rfl) (hd _)).mono ?_
    rintro e w1 ⟨rfl, hb1⟩
    have hz_w1_w : w.heap.size < w1.heap.size := (by have hs := hb1.size; (try simp at hs); omega)
    have hy_w1_w : w.heap.size < w1.heap.size + 1 := (by omega)
    have hx_w1_w : w.heap.size < w1.heap.size + 1 + 1 := (by omega)
    have hc_w1_w := fun o => hb1.cell (p := ⟨w.heap.size, o, none⟩) (by first | omega | (simp; done) | (simp; omega))
    have hf_w1_w := fun o => hb1.frozen (p := ⟨w.heap.size, o, none⟩) (by first | omega | (simp; done) | (simp; omega))
    have hz_w1_wp1 : w.heap.size + 1 < w1.heap.size := (by have hs := hb1.size; (try simp at hs); omega)
    have hy_w1_wp1 : w.heap.size + 1 < w1.heap.size + 1 := (by omega)
    have hx_w1_wp1 : w.heap.size + 1 < w1.heap.size + 1 + 1 := (by omega)
    have hc_w1_wp1 := fun o => hb1.cell (p := ⟨w.heap.size + 1, o, none⟩) (by first | omega | (simp; done) | (simp; omega))
    have hf_w1_wp1 := fun o => hb1.frozen (p := ⟨w.heap.size + 1, o, none⟩) (by first | omega | (simp; done) | (simp; omega))
    have hz_w1_wp2 : w.heap.size + 1 + 1 < w1.heap.size := (by have hs := hb1.size; (try simp at hs); omega)
    have hy_w1_wp2 : w.heap.size + 1 + 1 < w1.heap.size + 1 := (by omega)
    have hx_w1_wp2 : w.heap.size + 1 + 1 < w1.heap.size + 1 + 1 := (by omega)
    have hc_w1_wp2 := fun o => hb1.cell (p := ⟨w.heap.size + 1 + 1, o, none⟩) (by first | omega | (simp; done) | (simp; omega))
    have hf_w1_wp2 := fun o => hb1.frozen (p := ⟨w.heap.size + 1 + 1, o, none⟩) (by first | omega | (simp; done) | (simp; omega))
    rw [show onTwo x y r x' y' r' _ = _ from Hres.out]
    unfold out
    go_wp2
    refine bodyPost_ret (by simp [results, Try.results16, go_sem, *]; first | done | rfl) rfl ?_
    exact ⟨rfl, (by repeat' (first | (with_reducible exact Below.refl _ _) | (with_reducible assumption) | (with_reducible refine bl_alloc ?_ _) | (with_reducible refine bl_drew ?_) | (with_reducible refine bl_drewN ?_) | (with_reducible refine bl_setCell ?_ ?_ _) | (with_reducible refine bl_call ?_ (by with_reducible assumption)) | omega | (simp; done) | (simp; omega)))⟩
end Go.Proofs.Ytjgmjnjpgdadhaa
