/- The walk of the writing of balls. -/
import Derived.Test.YtjgmjnjpgdadhaaGreatDoorStd
import Derived.Test.YtjgmjnjpgdadhaaGreatDoorCutWalk
import Derived.Test.YtjgmjnjpgdadhaaGreatDoorKAwake
namespace Go.Proofs.YtjgmjnjpgdadhaaGreatDoor
open Go.RowKit Go

/-- The text of a right ball. -/
def fmtL (x y r : Int) : List UInt8 := Lib.join [Lib.itoa x, Lib.itoa y, Lib.itoa r] [32]
@[irreducible] def itoB (x : Int) : ByteArray := ⟨(Lib.itoa x).toArray⟩
theorem itoB_list (x : Int) : (itoB x).data.toList = Lib.itoa x := by unfold itoB; simp
theorem itoa_b (n : Int) (w : World) (h : Std w) (h0 : -9223372036854775808 ≤ n) (h1 : n ≤ 9223372036854775807) :
    Calls Tryz.prog 36 #[.int .i64 n] w fun e w' => e = .returned (.string (itoB n)) ∧ Below w.heap.size w w' := by
  unfold itoB; exact itoa_any n w h h0 h1

theorem dec_len : ∀ (n u : Nat), u < 10 ^ n → 0 < n → (Lib.decDigits u).length ≤ n := by
  intro n
  induction n with
  | zero => intro u _ h; omega
  | succ n ih =>
    intro u hu _
    by_cases h : u < 10
    · rw [dec_small h]; simp
    · rw [dec_big h, List.length_append]
      have hn : 0 < n := by
        rcases Nat.eq_zero_or_pos n with h0 | h0
        · subst h0; simp at hu; omega
        · exact h0
      have := ih (u / 10) (by rw [Nat.pow_succ] at hu; omega) hn
      simp; omega
theorem itoa_len {x : Int} (h1 : -99999999 ≤ x) (h2 : x ≤ 99999999) : (Lib.itoa x).length ≤ 9 ∧ (Lib.trimPrefix (Lib.itoa x) [45]).length ≤ 8 := by
  have k := fun u (hu : u < 100000000) => dec_len 8 u (by have : (10 : Nat) ^ 8 = 100000000 := by decide
                                                          omega) (by omega)
  unfold Lib.itoa
  split
  · have := k x.natAbs (by omega)
    rw [trim_minus]
    exact ⟨by simp; omega, this⟩
  · have := k x.toNat (by omega)
    refine ⟨by omega, ?_⟩
    cases hl : Lib.decDigits x.toNat with
    | nil => exact absurd hl (dec_ne _)
    | cons a r =>
      rw [trim_other r (fun e => by
        have := dec_digit x.toNat a (by rw [hl]; rfl)
        rw [e] at this
        have : (45 : UInt8).toNat = 45 := rfl
        omega)]
      rw [hl] at this
      exact this

/-- A numeral has no blank. -/
theorem itoa_no (x : Int) : ∀ b ∈ Lib.itoa x, b ≠ 32 := by
  have k : ∀ (n u : Nat), u < n → ∀ b ∈ Lib.decDigits u, b ≠ 32 := by
    intro n
    induction n with
    | zero => intro u h; omega
    | succ n ih =>
      intro u hu b hb
      have dg : ∀ d < 10, UInt8.ofNat (48 + d) ≠ 32 := fun d hd e => by
        have h3 := congrArg UInt8.toNat e
        rw [UInt8.toNat_ofNat'] at h3
        have : (32 : UInt8).toNat = 32 := rfl
        omega
      by_cases h : u < 10
      · rw [dec_small h] at hb
        rw [List.mem_singleton.1 hb]; exact dg u h
      · rw [dec_big h] at hb
        rcases List.mem_append.1 hb with hb | hb
        · exact ih (u / 10) (by omega) b hb
        · rw [List.mem_singleton.1 hb]; exact dg _ (by omega)
  intro b hb
  unfold Lib.itoa at hb
  split at hb
  · rcases List.mem_cons.1 hb with rfl | hb
    · decide
    · exact k (x.natAbs + 1) _ (by omega) b hb
  · exact k (x.toNat + 1) _ (by omega) b hb

theorem cut_word (c : UInt8) (l r : List UInt8) (h : ∀ b ∈ l, b ≠ c) : cutL c (l ++ c :: r) = l :: cutL c r := by
  induction l with
  | nil => simp [cutL]
  | cons a l ih =>
    rw [List.cons_append]
    conv => lhs; unfold cutL
    rw [if_neg (h a (by simp)), ih (fun b hb => h b (by simp [hb]))]
theorem cut_last (c : UInt8) (l : List UInt8) (h : ∀ b ∈ l, b ≠ c) : cutL c l = [l] := by
  induction l with
  | nil => rfl
  | cons a l ih =>
    unfold cutL
    rw [if_neg (h a (by simp)), ih (fun b hb => h b (by simp [hb]))]
theorem cut_fmt (x y r : Int) : cutL 32 (fmtL x y r) = [Lib.itoa x, Lib.itoa y, Lib.itoa r] := by
  have e : fmtL x y r = Lib.itoa x ++ 32 :: (Lib.itoa y ++ 32 :: Lib.itoa r) := by
    unfold fmtL
    rw [Lib.join_cons]
    simp [Lib.joinTail]
  rw [e, cut_word 32 _ _ (itoa_no x), cut_word 32 _ _ (itoa_no y), cut_last 32 _ (itoa_no r)]

@[irreducible] def fmtB (x y r : Int) : ByteArray := ⟨(fmtL x y r).toArray⟩
theorem fmtB_list (x y r : Int) : (fmtB x y r).data.toList = fmtL x y r := by unfold fmtB; simp
theorem fmt_len {x y r : Int} (h : Right x y r) : (fmtL x y r).length ≤ 29 := by
  obtain ⟨⟨h1, h2, h3, h4⟩, h5, h6⟩ := h
  have a := (itoa_len (x := x) (by omega) (by omega)).1
  have b := (itoa_len (x := y) (by omega) (by omega)).1
  have c := (itoa_len (x := r) (by omega) (by omega)).1
  have e : fmtL x y r = Lib.itoa x ++ 32 :: (Lib.itoa y ++ 32 :: Lib.itoa r) := by
    unfold fmtL
    rw [Lib.join_cons]
    simp [Lib.joinTail]
  rw [e]; simp; omega

set_option maxHeartbeats 400000 in
theorem Format_no (x y r : Int) (w : World) (f1 : Flo x) (f2 : Flo y) (h : ¬ Right x y r) :
    Calls Tryz.prog 12 #[.agg #[.complex .f64 (fl x) (fl y), .int .i64 r]] w fun e w' => e = .returned (.string { data := #[] }) ∧ Below w.heap.size w w' := by
  by_cases hf : Fits x y
  · have C := Lib.hid (fun w => read_no1 x y r w hf (by
      have : ¬ (0 ≤ r ∧ r ≤ 67108864) := fun h2 => h ⟨hf, h2⟩
      omega))
    clear h hf
    go_enter Tryz.func12, Tryz.ntmps12
    go_wp2_with fail
    refine (C.out _).mono ?_
    rintro e w1 ⟨rfl, hb_w1⟩
    have hs_w1 := hb_w1.size
    (try simp at hs_w1)
    go_wp2
    go_ret
    exact ⟨rfl, (by repeat' (first | (with_reducible exact Below.refl _ _) | (with_reducible assumption) | (with_reducible refine bl_alloc ?_ _) | (with_reducible refine bl_drew ?_) | (with_reducible refine bl_drewN ?_) | (with_reducible refine bl_setCell ?_ ?_ _) | (with_reducible refine bl_call ?_ (by with_reducible assumption)) | omega | (simp; done) | (simp; omega)))⟩
  · have C := Lib.hid (fun w => read_no2 x y r w f1 f2 hf)
    clear h hf
    go_enter Tryz.func12, Tryz.ntmps12
    go_wp2_with fail
    refine (C.out _).mono ?_
    rintro e w1 ⟨rfl, hb_w1⟩
    have hs_w1 := hb_w1.size
    (try simp at hs_w1)
    go_wp2
    go_ret
    exact ⟨rfl, (by repeat' (first | (with_reducible exact Below.refl _ _) | (with_reducible assumption) | (with_reducible refine bl_alloc ?_ _) | (with_reducible refine bl_drew ?_) | (with_reducible refine bl_drewN ?_) | (with_reducible refine bl_setCell ?_ ?_ _) | (with_reducible refine bl_call ?_ (by with_reducible assumption)) | omega | (simp; done) | (simp; omega)))⟩

theorem join_three (g cap : Nat) (x y z : Int) (w : World) (h0 : w.cell? ⟨g, 0, none⟩ = some (.string (itoB x))) (h1 : w.cell? ⟨g, 1, none⟩ = some (.string (itoB y))) (h2 : w.cell? ⟨g, 2, none⟩ = some (.string (itoB z))) (hg : g < w.heap.size) (hc : 3 ≤ cap) (hr : Right x y z) :
    Calls Tryz.prog 37 #[.slice (some ⟨g, 0, none⟩) 3 cap, .string { data := #[32] }] w fun e w' => e = .returned (.string (fmtB x y z)) ∧ Below w.heap.size w w' := by
  have hl : Lib.join ([itoB x, itoB y, itoB z].map (·.data.toList)) ({ data := #[32] } : ByteArray).data.toList = fmtL x y z := by
    simp only [List.map_cons, List.map_nil, itoB_list]
    rfl
  have t := Tryz.strings_Join g 0 cap [itoB x, itoB y, itoB z] { data := #[32] } w (fun j q hj => by
    match j, hj with
    | 0, hj => cases hj; exact h0
    | 1, hj => cases hj; exact h1
    | 2, hj => cases hj; exact h2) hg (by simp) hc (by rw [hl]; have := fmt_len hr; omega)
  rw [hl] at t
  unfold fmtB
  exact t

theorem own_below {w w' : World} {b : Nat} {e : TypeId} {size : Nat} {v : Value} {n : Nat} {xs : List Value} (h : w.ownsRow b e size v n xs) (hb : Below w.heap.size w w') : w'.ownsRow b e size v n xs := by
  obtain ⟨h1, h2⟩ := h
  refine ⟨h1, h2.imp id ?_⟩
  rintro ⟨g, cap, cur, e1, e2, e3, e4⟩
  refine ⟨g, cap, cur, e1, e2, ?_, e4⟩
  have hg : g < w.heap.size := by
    rcases Nat.lt_or_ge g w.heap.size with h | h
    · exact h
    · rw [Array.getElem?_eq_none h] at e3; cases e3
  rw [hb.block g hg]; exact e3

/-- Three texts in a slice of the call's own. -/
theorem own_three {w : World} {b : Nat} {v : Value} {x y z : ByteArray} (h : w.ownsRow b 9 1 v 3 [.string x, .string y, .string z]) :
    ∃ g cap, v = .slice (some ⟨g, 0, none⟩) 3 cap ∧ g < w.heap.size ∧ 3 ≤ cap ∧ w.cell? ⟨g, 0, none⟩ = some (.string x) ∧ w.cell? ⟨g, 1, none⟩ = some (.string y) ∧ w.cell? ⟨g, 2, none⟩ = some (.string z) := by
  obtain ⟨_, h2⟩ := h
  rcases h2 with ⟨_, h0⟩ | ⟨g, cap, cur, rfl, hg, hbk, hc, _, hsz, ht⟩
  · omega
  · have hl : g < w.heap.size := by
      rcases Nat.lt_or_ge g w.heap.size with h | h
      · exact h
      · rw [Array.getElem?_eq_none h] at hbk; cases hbk
    have k : ∀ (j : Nat) (u : Value), [Value.string x, .string y, .string z][j]? = some u → w.cell? ⟨g, j, none⟩ = some u := fun j u hj => by
      have hj3 : j < 3 := by
        rcases Nat.lt_or_ge j 3 with h | h
        · exact h
        · rw [List.getElem?_eq_none (by simpa using h)] at hj; cases hj
      rw [← ht, List.getElem?_take_of_lt (by omega)] at hj
      simp [World.cell?, hbk]
      simpa using hj
    exact ⟨g, cap, rfl, hl, hc, k 0 _ rfl, k 1 _ rfl, k 2 _ rfl⟩

/-- The texts so far. -/
@[irreducible] def fmtV (x y r : Int) (k : Nat) : List Value := [Value.string (itoB x), .string (itoB y), .string (itoB r)].take k
theorem fmtV_0 (x y r : Int) : fmtV x y r 0 = [] := by unfold fmtV; rfl
theorem fmtV_1 (x y r : Int) : fmtV x y r 1 = fmtV x y r 0 ++ [.string (itoB x)] := by unfold fmtV; rfl
theorem fmtV_2 (x y r : Int) : fmtV x y r 2 = fmtV x y r 1 ++ [.string (itoB y)] := by unfold fmtV; rfl
theorem fmtV_3 (x y r : Int) : fmtV x y r 3 = fmtV x y r 2 ++ [.string (itoB r)] := by unfold fmtV; rfl
theorem fmtV_all (x y r : Int) : fmtV x y r 3 = [.string (itoB x), .string (itoB y), .string (itoB r)] := by unfold fmtV; rfl

set_option maxRecDepth 100000 in
set_option maxHeartbeats 4000000 in
theorem Format_yes (x y r : Int) (w : World) (hS : Std w) (h : Right x y r) :
    Calls Tryz.prog 12 #[.agg #[.complex .f64 (fl x) (fl y), .int .i64 r]] w fun e w' => e = .returned (.string (fmtB x y r)) ∧ Below w.heap.size w w' := by
  obtain ⟨i0, hi, hz0, hz1, hz2⟩ := info_parts info_str
  have HR := Lib.hid h
  obtain ⟨⟨h1, h2, h3, h4⟩, h5, h6⟩ := h
  have C := Lib.hid (fun w => read_yes x y r w HR.out.1 HR.out.2.1 HR.out.2.2)
  have j0 : ∀ w, (Instr.index 72 (.agg #[.int .i64 x, .int .i64 y, .int .i64 r]) (.int .i64 0)).run Tryz.prog w = .ok (.int .i64 x) w := fun _ => by kernel_rfl
  have j1 : ∀ w, (Instr.index 72 (.agg #[.int .i64 x, .int .i64 y, .int .i64 r]) (.int .i64 1)).run Tryz.prog w = .ok (.int .i64 y) w := fun _ => by kernel_rfl
  have j2 : ∀ w, (Instr.index 72 (.agg #[.int .i64 x, .int .i64 y, .int .i64 r]) (.int .i64 2)).run Tryz.prog w = .ok (.int .i64 r) w := fun _ => by kernel_rfl
  go_enter Tryz.func12, Tryz.ntmps12
  go_wp2_with fail
  refine (C.out _).mono ?_
  rintro e w1 ⟨rfl, hb_w1⟩
  have hs_w1 := hb_w1.size
  (try simp at hs_w1)
  have hz_w1_w : w.heap.size < w1.heap.size := (by have hs := hb_w1.size; (try simp at hs); omega)
  have hy_w1_w : w.heap.size < w1.heap.size + 1 := (by omega)
  have hx_w1_w : w.heap.size < w1.heap.size + 1 + 1 := (by omega)
  have hc_w1_w := fun o => hb_w1.cell (p := ⟨w.heap.size, o, none⟩) (by first | omega | (simp; done) | (simp; omega))
  have hf_w1_w := fun o => hb_w1.frozen (p := ⟨w.heap.size, o, none⟩) (by first | omega | (simp; done) | (simp; omega))
  clear hc_w1_w hf_w1_w
  go_wp2_with fail
  go_loopw [5, 24] (fun o i wr => ∃ k : Nat, k ≤ 3 ∧ i = .int .i64 k ∧ wr.ownsRow w.heap.size 9 1 o k (fmtV x y r k) ∧ Below w.heap.size w wr) (fun _ i _ => 3 - (intOf i).toNat)
  case atStart => exact ⟨0, by omega, rfl, by rw [fmtV_0]; exact World.ownsRow_nil _ _ _ _, (by repeat' (first | (with_reducible exact Below.refl _ _) | (with_reducible assumption) | (with_reducible refine bl_alloc ?_ _) | (with_reducible refine bl_drew ?_) | (with_reducible refine bl_drewN ?_) | (with_reducible refine bl_setCell ?_ ?_ _) | (with_reducible refine bl_call ?_ (by with_reducible assumption)) | omega | (simp; done) | (simp; omega)))⟩
  case round =>
    obtain ⟨k, hk, rfl, hown, hb⟩ := hrel
    have hbs := hb.size
    have hk4 : k = 0 ∨ k = 1 ∨ k = 2 ∨ k = 3 := by omega
    rcases hk4 with rfl | rfl | rfl | rfl
    · go_wp2_with fail
      refine (itoa_b x _ (hS.below (by repeat' (first | (with_reducible exact Below.refl _ _) | (with_reducible assumption) | (with_reducible refine bl_alloc ?_ _) | (with_reducible refine bl_drew ?_) | (with_reducible refine bl_drewN ?_) | (with_reducible refine bl_setCell ?_ ?_ _) | (with_reducible refine bl_call ?_ (by with_reducible assumption)) | omega | (simp; done) | (simp; omega)))) (by omega) (by omega)).mono ?_
      rintro e w2 ⟨rfl, hb_w2⟩
      have own2 := own_below hown hb_w2
      have hb2 : Below w.heap.size w w2 := (by repeat' (first | (with_reducible exact Below.refl _ _) | (with_reducible assumption) | (with_reducible refine bl_alloc ?_ _) | (with_reducible refine bl_drew ?_) | (with_reducible refine bl_drewN ?_) | (with_reducible refine bl_setCell ?_ ?_ _) | (with_reducible refine bl_call ?_ (by with_reducible assumption)) | omega | (simp; done) | (simp; omega)))
      have hs2 := hb2.size
      clear hown hb_w2
      go_wp2_with (at_builtin; refine wpList_append_own _ rfl _ _ 71 rfl w.heap.size 9 i0 (.string ByteArray.empty) 1 16 Tryz.underlying71 hi hz0 hz1 hz2 rfl (by decide) _ _ _ rfl (own2.alloc _) ⟨w2.heap.size, 0, none⟩ 1 1 [.string (itoB x)] rfl rfl ?a1 ?a2 ?a3 ?a4 ?a5 ?_)
      case a1 =>
        intro j u hj
        match j, hj with
        | 0, hj => simp at hj; subst hj; simp [Addr.add]
      case a2 => first | rfl | (intro u hu; simp at hu; subst hu; rfl)
      case a3 => unfold maxLen; omega
      case a4 => omega
      case a5 => simp; omega
      intro v' w3 hown' hgrow' _
      have hb3 : Below w.heap.size w w3 := (hb2.alloc hs2 _).grown hgrow' (by simp; omega) (fun j hj => (own2.lt j hj).1)
      rw [← fmtV_1] at hown'
      clear hgrow' own2
      go_wp2
      go_roundw
      case rel => exact ⟨1, by omega, by simp, by simpa using hown', hb3⟩
      case measure => simp [intOf]
    · go_wp2_with fail
      refine (itoa_b y _ (hS.below (by repeat' (first | (with_reducible exact Below.refl _ _) | (with_reducible assumption) | (with_reducible refine bl_alloc ?_ _) | (with_reducible refine bl_drew ?_) | (with_reducible refine bl_drewN ?_) | (with_reducible refine bl_setCell ?_ ?_ _) | (with_reducible refine bl_call ?_ (by with_reducible assumption)) | omega | (simp; done) | (simp; omega)))) (by omega) (by omega)).mono ?_
      rintro e w2 ⟨rfl, hb_w2⟩
      have own2 := own_below hown hb_w2
      have hb2 : Below w.heap.size w w2 := (by repeat' (first | (with_reducible exact Below.refl _ _) | (with_reducible assumption) | (with_reducible refine bl_alloc ?_ _) | (with_reducible refine bl_drew ?_) | (with_reducible refine bl_drewN ?_) | (with_reducible refine bl_setCell ?_ ?_ _) | (with_reducible refine bl_call ?_ (by with_reducible assumption)) | omega | (simp; done) | (simp; omega)))
      have hs2 := hb2.size
      clear hown hb_w2
      go_wp2_with (at_builtin; refine wpList_append_own _ rfl _ _ 71 rfl w.heap.size 9 i0 (.string ByteArray.empty) 1 16 Tryz.underlying71 hi hz0 hz1 hz2 rfl (by decide) _ _ _ rfl (own2.alloc _) ⟨w2.heap.size, 0, none⟩ 1 1 [.string (itoB y)] rfl rfl ?a1 ?a2 ?a3 ?a4 ?a5 ?_)
      case a1 =>
        intro j u hj
        match j, hj with
        | 0, hj => simp at hj; subst hj; simp [Addr.add]
      case a2 => first | rfl | (intro u hu; simp at hu; subst hu; rfl)
      case a3 => unfold maxLen; omega
      case a4 => omega
      case a5 => simp; omega
      intro v' w3 hown' hgrow' _
      have hb3 : Below w.heap.size w w3 := (hb2.alloc hs2 _).grown hgrow' (by simp; omega) (fun j hj => (own2.lt j hj).1)
      rw [← fmtV_2] at hown'
      clear hgrow' own2
      go_wp2
      go_roundw
      case rel => exact ⟨2, by omega, by simp, by simpa using hown', hb3⟩
      case measure => simp [intOf]
    · go_wp2_with fail
      refine (itoa_b r _ (hS.below (by repeat' (first | (with_reducible exact Below.refl _ _) | (with_reducible assumption) | (with_reducible refine bl_alloc ?_ _) | (with_reducible refine bl_drew ?_) | (with_reducible refine bl_drewN ?_) | (with_reducible refine bl_setCell ?_ ?_ _) | (with_reducible refine bl_call ?_ (by with_reducible assumption)) | omega | (simp; done) | (simp; omega)))) (by omega) (by omega)).mono ?_
      rintro e w2 ⟨rfl, hb_w2⟩
      have own2 := own_below hown hb_w2
      have hb2 : Below w.heap.size w w2 := (by repeat' (first | (with_reducible exact Below.refl _ _) | (with_reducible assumption) | (with_reducible refine bl_alloc ?_ _) | (with_reducible refine bl_drew ?_) | (with_reducible refine bl_drewN ?_) | (with_reducible refine bl_setCell ?_ ?_ _) | (with_reducible refine bl_call ?_ (by with_reducible assumption)) | omega | (simp; done) | (simp; omega)))
      have hs2 := hb2.size
      clear hown hb_w2
      go_wp2_with (at_builtin; refine wpList_append_own _ rfl _ _ 71 rfl w.heap.size 9 i0 (.string ByteArray.empty) 1 16 Tryz.underlying71 hi hz0 hz1 hz2 rfl (by decide) _ _ _ rfl (own2.alloc _) ⟨w2.heap.size, 0, none⟩ 1 1 [.string (itoB r)] rfl rfl ?a1 ?a2 ?a3 ?a4 ?a5 ?_)
      case a1 =>
        intro j u hj
        match j, hj with
        | 0, hj => simp at hj; subst hj; simp [Addr.add]
      case a2 => first | rfl | (intro u hu; simp at hu; subst hu; rfl)
      case a3 => unfold maxLen; omega
      case a4 => omega
      case a5 => simp; omega
      intro v' w3 hown' hgrow' _
      have hb3 : Below w.heap.size w w3 := (hb2.alloc hs2 _).grown hgrow' (by simp; omega) (fun j hj => (own2.lt j hj).1)
      rw [← fmtV_3] at hown'
      clear hgrow' own2
      go_wp2
      go_roundw
      case rel => exact ⟨3, by omega, by simp, by simpa using hown', hb3⟩
      case measure => simp [intOf]
    · rw [fmtV_all] at hown
      obtain ⟨g, cap, rfl, hg, hc, c0, c1, c2⟩ := own_three hown
      have J := Lib.hid (fun w' (h0 : w'.cell? ⟨g, 0, none⟩ = some (.string (itoB x))) h1 h2 hg => join_three g cap x y r w' h0 h1 h2 hg hc HR.out)
      go_wp2_with fail
      refine (J.out _ (by simpa using c0) (by simpa using c1) (by simpa using c2) hg).mono ?_
      rintro e w2 ⟨rfl, hb_w2⟩
      go_wp2
      go_ret
      exact ⟨rfl, (by repeat' (first | (with_reducible exact Below.refl _ _) | (with_reducible assumption) | (with_reducible refine bl_alloc ?_ _) | (with_reducible refine bl_drew ?_) | (with_reducible refine bl_drewN ?_) | (with_reducible refine bl_setCell ?_ ?_ _) | (with_reducible refine bl_call ?_ (by with_reducible assumption)) | omega | (simp; done) | (simp; omega)))⟩
end Go.Proofs.YtjgmjnjpgdadhaaGreatDoor
