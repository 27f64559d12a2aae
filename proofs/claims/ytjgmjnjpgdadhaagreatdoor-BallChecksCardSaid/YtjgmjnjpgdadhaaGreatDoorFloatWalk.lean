/- The walks of the functions that ask whether a float is whole, at any floats. -/
import Derived.Test.YtjgmjnjpgdadhaaGreatDoorFloatAsk
import Derived.Test.YtjgmjnjpgdadhaaGreatDoorKAwake
namespace Go.Proofs.YtjgmjnjpgdadhaaGreatDoor
open Go.RowKit

theorem run_trunc_num {a : Nat} (w : World) (h : nq a = false) :
    (callFunc 133 #[.float .f64 a]).run Tryz.prog w = .ok (.value (.float .f64 (FloatKind.f64.encode ((FloatKind.f64.decode a).integral .zero)))) w := by
  rw [run_callFunc_extern (P := Tryz.prog) (f := 133) (fn := Tryz.f133) (e := Extern.MathFloor.toIntegral "math.archTrunc" .zero) (by kernel_rfl) (by kernel_rfl) (by kernel_rfl) (by kernel_rfl) (by kernel_rfl)]
  have e : Extern.MathFloor.toIntegral "math.archTrunc" .zero #[.float .f64 a] = pure (.float .f64 (FloatKind.f64.encode ((FloatKind.f64.decode a).integral .zero))) := by
    show (match FloatKind.f64.decode a with | .nan s t => _ | d => pure (Value.float .f64 (FloatKind.f64.encode (d.integral .zero)))) = _
    rcases read_cases a with ⟨s, t, g⟩ | ⟨s, g⟩ | ⟨s, m, p, g⟩
    · rw [(nan_wh g).2.1] at h; cases h
    · rw [show FloatKind.f64.decode a = _ from g]
    · rw [show FloatKind.f64.decode a = _ from g.1]
  rw [e]; rfl

theorem run_trunc_nan {a : Nat} (h : nq a = true) :
    ∃ tt : World → Nat, (∀ w, (callFunc 133 #[.float .f64 a]).run Tryz.prog w = .ok (.value (.float .f64 (tt w))) w) ∨ (∀ w, (callFunc 133 #[.float .f64 a]).run Tryz.prog w = .ok (.value (.float .f64 (tt w))) w.drew) := by
  rcases read_cases a with ⟨s, t, g⟩ | ⟨s, g⟩ | ⟨s, m, p, g⟩
  · have e : Extern.MathFloor.toIntegral "math.archTrunc" .zero #[.float .f64 a] = (if FloatKind.f64.format.quiet t = t then pure (.float .f64 a) else do
        let kept ← choose (.extern "math.Floor,Ceil,Trunc,RoundToEven.signallingNaN kept" 2)
        pure (.float .f64 (if kept == 1 then a else FloatKind.f64.encode (.nan s (FloatKind.f64.format.quiet t))))) := by
      show (match FloatKind.f64.decode a with
        | .nan s t => (if FloatKind.f64.format.quiet t = t then pure (Value.float .f64 a) else do
            let kept ← choose (.extern "math.Floor,Ceil,Trunc,RoundToEven.signallingNaN kept" 2)
            pure (Value.float .f64 (if kept == 1 then a else FloatKind.f64.encode (.nan s (FloatKind.f64.format.quiet t)))))
        | d => pure (Value.float .f64 (FloatKind.f64.encode (d.integral .zero)))) = _
      rw [show FloatKind.f64.decode a = _ from g]
    by_cases hq : FloatKind.f64.format.quiet t = t
    · refine ⟨fun _ => a, .inl fun w => ?_⟩
      rw [run_callFunc_extern (P := Tryz.prog) (f := 133) (fn := Tryz.f133) (e := Extern.MathFloor.toIntegral "math.archTrunc" .zero) (by kernel_rfl) (by kernel_rfl) (by kernel_rfl) (by kernel_rfl) (by kernel_rfl), e, if_pos hq]
      rfl
    · refine ⟨fun w => if Question.cut (.extern "math.Floor,Ceil,Trunc,RoundToEven.signallingNaN kept" 2) (w.tape w.drawn (.extern "math.Floor,Ceil,Trunc,RoundToEven.signallingNaN kept" 2)) == 1 then a else FloatKind.f64.encode (.nan s (FloatKind.f64.format.quiet t)), .inr fun w => ?_⟩
      rw [run_callFunc_extern (P := Tryz.prog) (f := 133) (fn := Tryz.f133) (e := Extern.MathFloor.toIntegral "math.archTrunc" .zero) (by kernel_rfl) (by kernel_rfl) (by kernel_rfl) (by kernel_rfl) (by kernel_rfl), e, if_neg hq]
      rfl
  · rw [(inf_wh g).2.1] at h; cases h
  · rw [g.nq] at h; cases h

theorem inf_enc (s : Bool) : Ieee.double.read (FloatKind.f64.encode (.infinity s)) = .infinity s := by cases s <;> decide
theorem trunc_ask {a : Nat} (h : nq a = false) : (FloatKind.f64.format.order (FloatKind.f64.encode ((FloatKind.f64.decode a).integral .zero)) a == some .eq) = (wh a || fq a) := by
  rcases read_cases a with ⟨s, t, g⟩ | ⟨s, g⟩ | ⟨s, m, p, g⟩
  · rw [(nan_wh g).2.1] at h; cases h
  · rw [(inf_wh g).1, (inf_wh g).2.2, show FloatKind.f64.decode a = _ from g]
    show (Ieee.Datum.order (Ieee.double.read (FloatKind.f64.encode (.infinity s))) (Ieee.double.read a) == some .eq) = true
    rw [inf_enc, g]; cases s <;> rfl
  · rw [g.wh, g.fq, ask_trunc g, Bool.or_false]

theorem Trunc_at (a : Nat) (w : World) :
    Calls Tryz.prog 115 #[.float .f64 a] w fun e w' => ∃ t, e = .returned (.float .f64 t) ∧ Below w.heap.size w w' ∧ (FloatKind.f64.format.order t a == some .eq) = (wh a || fq a) := by
  cases hn : nq a
  · have hx := fun w => run_trunc_num w hn
    have ho := trunc_ask hn
    generalize FloatKind.f64.encode ((FloatKind.f64.decode a).integral .zero) = t at *
    go_enter Tryz.func115, Tryz.ntmps115
    go_wp2
    go_ret
    exact ⟨_, rfl, (by repeat' (first | (with_reducible exact Below.refl _ _) | (with_reducible assumption) | (with_reducible refine bl_alloc ?_ _) | (with_reducible refine bl_drew ?_) | (with_reducible refine bl_drewN ?_) | (with_reducible refine bl_setCell ?_ ?_ _) | (with_reducible refine bl_call ?_ (by with_reducible assumption)) | omega | (simp; done) | (simp; omega))), ho⟩
  · obtain ⟨tt, ht⟩ := run_trunc_nan hn
    have ho : ∀ t, (FloatKind.f64.format.order t a == some .eq) = (wh a || fq a) := by
      intro u
      rcases read_cases a with ⟨s, t, g⟩ | ⟨s, g⟩ | ⟨s, m, p, g⟩
      · rw [(nan_wh g).1, (nan_wh g).2.2, order_nan_right g]; rfl
      · rw [(inf_wh g).2.1] at hn; cases hn
      · rw [g.nq] at hn; cases hn
    clear hn
    have HO := Lib.hid ho
    clear ho
    rcases ht with ht | ht
    · go_enter Tryz.func115, Tryz.ntmps115
      go_wp2
      go_ret
      exact ⟨_, rfl, (by repeat' (first | (with_reducible exact Below.refl _ _) | (with_reducible assumption) | (with_reducible refine bl_alloc ?_ _) | (with_reducible refine bl_drew ?_) | (with_reducible refine bl_drewN ?_) | (with_reducible refine bl_setCell ?_ ?_ _) | (with_reducible refine bl_call ?_ (by with_reducible assumption)) | omega | (simp; done) | (simp; omega))), HO.out _⟩
    · go_enter Tryz.func115, Tryz.ntmps115
      go_wp2
      go_ret
      exact ⟨_, rfl, (by repeat' (first | (with_reducible exact Below.refl _ _) | (with_reducible assumption) | (with_reducible refine bl_alloc ?_ _) | (with_reducible refine bl_drew ?_) | (with_reducible refine bl_drewN ?_) | (with_reducible refine bl_setCell ?_ ?_ _) | (with_reducible refine bl_call ?_ (by with_reducible assumption)) | omega | (simp; done) | (simp; omega))), HO.out _⟩

set_option maxHeartbeats 400000 in
theorem Abs_at (a : Nat) (ha : a < 18446744073709551616) (w : World) :
    Calls Tryz.prog 98 #[.float .f64 a] w fun e w' => e = .returned (.float .f64 (a % 9223372036854775808)) ∧ w' = w := by
  have hx := fun w => run_bits a w
  have hy := fun w => run_frombits (bits .andNot .u64 (a : Int) 9223372036854775808) w
  go_enter Tryz.func98, Tryz.ntmps98
  go_wp2
  go_ret
  rw [abs_nat _ ha]
  exact ⟨rfl, rfl⟩

set_option maxHeartbeats 400000 in
theorem IsInf_at (a : Nat) (ha : a < 18446744073709551616) (hn : nq a = false) (w : World) :
    Calls Tryz.prog 116 #[.float .f64 a, .int .i64 0] w fun e w' => e = .returned (.bool (fq a)) ∧ w' = w := by
  have ho := max_inf a hn
  generalize fq a = q at *
  cases q
  all_goals
    go_enter Tryz.func116, Tryz.ntmps116
    go_wp2_with (go_at_call 98; refine (Abs_at _ ha _).mono ?_; rintro e w' ⟨rfl, rfl⟩)
    go_ret
    exact ⟨rfl, rfl⟩

theorem wh_two (a : Nat) : (wh a = false ∧ fq a = false) ∨ (wh a = true ∧ fq a = false ∧ nq a = false) ∨ (wh a = false ∧ fq a = true ∧ nq a = false) := by
  rcases read_cases a with ⟨s, t, g⟩ | ⟨s, g⟩ | ⟨s, m, p, g⟩
  · exact .inl ⟨(nan_wh g).1, (nan_wh g).2.2⟩
  · exact .inr (.inr ⟨(inf_wh g).1, (inf_wh g).2.2, (inf_wh g).2.1⟩)
  · cases h : wh a
    · exact .inl ⟨rfl, g.fq⟩
    · exact .inr (.inl ⟨rfl, g.fq, g.nq⟩)

set_option maxHeartbeats 400000 in
theorem isWhole_at (a : Nat) (ha : a < 18446744073709551616) (w : World) :
    Calls Tryz.prog 97 #[.float .f64 a] w fun e w' => e = .returned (.bool (wh a)) ∧ Below w.heap.size w w' := by
  have T := Trunc_at a
  have I := IsInf_at a ha
  rcases wh_two a with ⟨h1, h2⟩ | ⟨h1, h2, h3⟩ | ⟨h1, h2, h3⟩
  · have WH : (wh a || fq a) = false := by rw [h1, h2]; rfl
    rw [h1]
    go_enter Tryz.func97, Tryz.ntmps97
    go_wp2_with (go_at_call 115; refine (T _).mono ?_; rintro e w1 ⟨t, rfl, hb1, ho⟩; rw [WH] at ho)
    go_ret
    exact ⟨rfl, (by repeat' (first | (with_reducible exact Below.refl _ _) | (with_reducible assumption) | (with_reducible refine bl_alloc ?_ _) | (with_reducible refine bl_drew ?_) | (with_reducible refine bl_drewN ?_) | (with_reducible refine bl_setCell ?_ ?_ _) | (with_reducible refine bl_call ?_ (by with_reducible assumption)) | omega | (simp; done) | (simp; omega)))⟩
  · have WH : (wh a || fq a) = true := by rw [h1, h2]; rfl
    rw [h2] at I
    rw [h1]
    go_enter Tryz.func97, Tryz.ntmps97
    go_wp2_with (first | (go_at_call 115; refine (T _).mono ?_; rintro e w1 ⟨t, rfl, hb1, ho⟩; rw [WH] at ho) | (go_at_call 116; refine (I h3 _).mono ?_; rintro e w' ⟨rfl, rfl⟩))
    go_ret
    exact ⟨rfl, (by repeat' (first | (with_reducible exact Below.refl _ _) | (with_reducible assumption) | (with_reducible refine bl_alloc ?_ _) | (with_reducible refine bl_drew ?_) | (with_reducible refine bl_drewN ?_) | (with_reducible refine bl_setCell ?_ ?_ _) | (with_reducible refine bl_call ?_ (by with_reducible assumption)) | omega | (simp; done) | (simp; omega)))⟩
  · have WH : (wh a || fq a) = true := by rw [h1, h2]; rfl
    rw [h2] at I
    rw [h1]
    go_enter Tryz.func97, Tryz.ntmps97
    go_wp2_with (first | (go_at_call 115; refine (T _).mono ?_; rintro e w1 ⟨t, rfl, hb1, ho⟩; rw [WH] at ho) | (go_at_call 116; refine (I h3 _).mono ?_; rintro e w' ⟨rfl, rfl⟩))
    go_ret
    exact ⟨rfl, (by repeat' (first | (with_reducible exact Below.refl _ _) | (with_reducible assumption) | (with_reducible refine bl_alloc ?_ _) | (with_reducible refine bl_drew ?_) | (with_reducible refine bl_drewN ?_) | (with_reducible refine bl_setCell ?_ ?_ _) | (with_reducible refine bl_call ?_ (by with_reducible assumption)) | omega | (simp; done) | (simp; omega)))⟩

/- The reference's way. -/
theorem run_sub_inf (a : Nat) (h : fq a = true) : ∃ rr : World → Nat, (∀ w, (binOp .sub 22 (.float .f64 a) (.float .f64 a)).run Tryz.prog w = .ok (.float .f64 (rr w)) w.drew) ∧ ∀ w, FloatKind.f64.format.order (rr w) 0 = none := by
  rcases read_cases a with ⟨s, t, g⟩ | ⟨s, g⟩ | ⟨s, m, p, g⟩
  · rw [(nan_wh g).2.2] at h; cases h
  · have e : FloatKind.f64.format.sub a a = none := by
      show ((Ieee.double.read a).sum (Ieee.double.read a).opposite).map Ieee.double.write = none
      rw [g]; cases s <;> rfl
    refine ⟨fun w => Question.cut (.nanBits .f64 a a) (w.tape w.drawn (.nanBits .f64 a a)), fun w => by simp [binOp, Op.floatArith, e, Question.forced], fun w => ?_⟩
    obtain ⟨s', t', hr⟩ := read_nan_of (r := Question.cut (.nanBits .f64 a a) (w.tape w.drawn (.nanBits .f64 a a))) (by
      show 9218868437227405312 < ((_ % 2) * 2 ^ 63 + 0x7ff0000000000000 + 1 + (_ / 2) % (2 ^ 52 - 1)) % 9223372036854775808
      generalize w.tape w.drawn (.nanBits .f64 a a) = T
      have := Nat.mod_lt T (show 0 < 2 by decide)
      have := Nat.mod_lt (T / 2) (show 0 < 2 ^ 52 - 1 by decide)
      generalize T % 2 = A at *
      generalize T / 2 % (2 ^ 52 - 1) = B at *
      omega)
    exact order_nan_left hr
  · rw [g.fq] at h; cases h
theorem num_sub {a : Nat} {s : Bool} {m : Nat} {p : Int} (h : Num a s m p) : floatBits .sub .f64 a a = some 0 := by
  show ((Ieee.double.read a).sum (Ieee.double.read a).opposite).map Ieee.double.write = some 0
  rw [h.1]
  show some (Ieee.double.write (.number _ _ _)) = some 0
  have e : ∀ k : Nat, Ieee.signed s m k + Ieee.signed (!s) m k = 0 := fun k => by unfold Ieee.signed; cases s <;> simp <;> omega
  rw [e]
  have e2 : (if (0 : Int) = 0 then s && !s else decide ((0 : Int) < 0)) = false := by cases s <;> rfl
  rw [e2]
  show some (Ieee.double.nearest false 0 _) = some 0
  unfold Ieee.Format.nearest
  rfl
theorem cmp_cases (u v : Int) : ∃ c : Ordering, compare u v = c ∧ (c = .lt ∨ c = .eq ∨ c = .gt) := by
  cases h : compare u v <;> exact ⟨_, rfl, by simp⟩

set_option maxHeartbeats 1000000 in
theorem bIsWhole_at (a : Nat) (w : World) :
    Calls Tryz.prog 34 #[.float .f64 a] w fun e w' => e = .returned (.bool (wh a)) ∧ Below w.heap.size w w' := by
  rcases read_cases a with ⟨s, t, g⟩ | ⟨s, g⟩ | ⟨s, m, p, g⟩
  · have o1 := order_nan_left (b := a) g
    rw [(nan_wh g).1]
    clear g
    go_enter Tryz.func34, Tryz.ntmps34
    go_wp2
    go_ret
    exact ⟨rfl, (by repeat' (first | (with_reducible exact Below.refl _ _) | (with_reducible assumption) | (with_reducible refine bl_alloc ?_ _) | (with_reducible refine bl_drew ?_) | (with_reducible refine bl_drewN ?_) | (with_reducible refine bl_setCell ?_ ?_ _) | (with_reducible refine bl_call ?_ (by with_reducible assumption)) | omega | (simp; done) | (simp; omega)))⟩
  · have o1 := order_inf_self g
    obtain ⟨rr, o2, o3⟩ := run_sub_inf a (inf_wh g).2.2
    rw [(inf_wh g).1]
    clear g
    go_enter Tryz.func34, Tryz.ntmps34
    go_wp2
    go_ret
    exact ⟨rfl, (by repeat' (first | (with_reducible exact Below.refl _ _) | (with_reducible assumption) | (with_reducible refine bl_alloc ?_ _) | (with_reducible refine bl_drew ?_) | (with_reducible refine bl_drewN ?_) | (with_reducible refine bl_setCell ?_ ?_ _) | (with_reducible refine bl_call ?_ (by with_reducible assumption)) | omega | (simp; done) | (simp; omega)))⟩
  · have o1 := order_num_self g
    have o2 := fun (w : World) => run_float_arith (P := Tryz.prog) w .sub 22 .f64 _ _ 0 (num_sub g)
    have o6 : FloatKind.f64.format.order 0 0 = some .eq := by decide
    obtain ⟨c1, e1⟩ : ∃ c, FloatKind.f64.format.order a 14069741636278059008 = some c := ⟨_, order_num g.1 lim_read.1 g.2.2.1 (by omega)⟩
    obtain ⟨c2, e2⟩ : ∃ c, FloatKind.f64.format.order a 4846369599423283200 = some c := ⟨_, order_num g.1 lim_read.2 g.2.2.1 (by omega)⟩
    rw [g.wh]
    by_cases hc : c1 = .lt ∨ c2 = .gt
    · have hw := lim_out g (by rw [e1, e2]; rcases hc with rfl | rfl <;> simp)
      rw [hw]
      clear hw g
      cases c1 <;> cases c2 <;> first | (rcases hc with hc | hc <;> cases hc; done) | skip
      all_goals
        clear hc
        go_enter Tryz.func34, Tryz.ntmps34
        go_wp2
        go_ret
        exact ⟨rfl, (by repeat' (first | (with_reducible exact Below.refl _ _) | (with_reducible assumption) | (with_reducible refine bl_alloc ?_ _) | (with_reducible refine bl_drew ?_) | (with_reducible refine bl_drewN ?_) | (with_reducible refine bl_setCell ?_ ?_ _) | (with_reducible refine bl_call ?_ (by with_reducible assumption)) | omega | (simp; done) | (simp; omega)))⟩
    · have hl := lim_le g (by rw [e1]; cases c1 <;> first | rfl | exact absurd (.inl rfl) hc) (by rw [e2]; cases c2 <;> first | rfl | exact absurd (.inr rfl) hc)
      have o5 := fun (w : World) => run_convert_float_int (P := Tryz.prog) w 22 3 .f64 .i64 _ _ (by kernel_rfl) (by kernel_rfl) (int_of g hl)
      have o7 := ask_int g
      generalize isWh m p = q at *
      generalize (if s = true then (-1 : Int) else 1) * (whM m p : Int) = v at *
      clear hl g
      cases q <;> cases c1 <;> cases c2 <;> first | (exfalso; simp at hc; done) | skip
      all_goals
        clear hc
        go_enter Tryz.func34, Tryz.ntmps34
        go_wp2
        go_ret
        exact ⟨rfl, (by repeat' (first | (with_reducible exact Below.refl _ _) | (with_reducible assumption) | (with_reducible refine bl_alloc ?_ _) | (with_reducible refine bl_drew ?_) | (with_reducible refine bl_drewN ?_) | (with_reducible refine bl_setCell ?_ ?_ _) | (with_reducible refine bl_call ?_ (by with_reducible assumption)) | omega | (simp; done) | (simp; omega)))⟩
end Go.Proofs.YtjgmjnjpgdadhaaGreatDoor
