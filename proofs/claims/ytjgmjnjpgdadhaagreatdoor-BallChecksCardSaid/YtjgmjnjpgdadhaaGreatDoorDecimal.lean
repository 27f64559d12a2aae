/- The walk of the reference's decimal texts. -/
import Derived.Test.YtjgmjnjpgdadhaaGreatDoorFormatAt
namespace Go.Proofs.YtjgmjnjpgdadhaaGreatDoor
open Go.RowKit Go Go.Shelf

/-- The digits that are still to be written, and those that stand. -/
@[irreducible] def left (u : Nat) (l : List UInt8) : List UInt8 := if u = 0 then l else Lib.decDigits u ++ l
theorem left_zero (l : List UInt8) : left 0 l = l := by unfold left; rw [if_pos rfl]
theorem left_start (u : Nat) (h : u ≠ 0) : left u [] = Lib.decDigits u := by unfold left; rw [if_neg h, List.append_nil]
theorem left_step (u : Nat) (l : List UInt8) (h : u ≠ 0) : left (u / 10) (UInt8.ofNat (48 + u % 10) :: l) = left u l := by
  unfold left
  rw [if_neg h]
  by_cases h1 : u < 10
  · rw [if_pos (by omega), dec_small h1, show u % 10 = u by omega]; rfl
  · rw [if_neg (by omega), dec_big h1, List.append_assoc]; rfl
theorem left_len (u : Nat) (l : List UInt8) : l.length ≤ (left u l).length := by
  unfold left
  split
  · exact Nat.le_refl _
  · rw [List.length_append]; omega
theorem tmod_abs (m : Int) : ((m.tmod 10).natAbs : Int) = ((m.natAbs % 10 : Nat) : Int) := by rw [Int.natAbs_tmod]; rfl
theorem tdiv_abs (m : Int) : (m.tdiv 10).natAbs = m.natAbs / 10 := by rw [Int.natAbs_tdiv]; rfl
theorem tdiv_bd {m : Int} (h1 : -67108864 ≤ m) (h2 : m ≤ 67108864) : -67108864 ≤ m.tdiv 10 ∧ m.tdiv 10 ≤ 67108864 := by
  have := tdiv_abs m
  omega

set_option maxHeartbeats 1000000 in
theorem Size_at (n : Int) (w : World) (h1 : -9223372036854775807 ≤ n) (h2 : n ≤ 9223372036854775807) :
    Calls Tryz.prog 80 #[.int .i64 n] w fun e w' => e = .returned (.int .i64 (n.natAbs : Nat)) ∧ w' = w := by
  by_cases h : 0 ≤ n
  all_goals
    go_enter Tryz.func80, Tryz.ntmps80
    go_wp2
    go_ret
    exact ⟨ret_int (by omega), rfl⟩

theorem conv_one (V : Int) (h0 : 0 ≤ V) (hV : V < 256) (B : Nat) (W : World) (hc : W.cell? ⟨B, 0, none⟩ = some (.int .u8 V)) :
    (convert 104 9 (.slice (some ⟨B, 0, none⟩) 1 1)).run Tryz.prog W = .ok (.string ⟨#[UInt8.ofNat V.toNat]⟩) W := by
  have := run_convert_bytes_back (P := Tryz.prog) W 104 9 5 ⟨B, 0, none⟩ 1 [UInt8.ofNat V.toNat] (by kernel_rfl) (by kernel_rfl) (by kernel_rfl) (fun j hj => by
    have : j = 0 := by simpa using hj
    subst this
    simp only [List.getElem_cons_zero]
    rw [show ((UInt8.ofNat V.toNat).toNat : Int) = V from by rw [UInt8.toNat_ofNat']; simp; omega]
    simpa [Addr.add] using hc)
  simpa using this

theorem dec_fin (n : Int) (A B : ByteArray) (h : B.data.toList = Lib.decDigits n.natAbs) (hA : A.data.toList = if n < 0 then [45] else []) : A ++ B = itoB n := by
  apply ByteArray.ext
  apply Array.toList_inj.1
  rw [itoB_list, ByteArray.data_append, Array.toList_append, h, hA]
  unfold Lib.itoa
  by_cases hn : n < 0
  · rw [if_pos hn, if_pos hn]; rfl
  · rw [if_neg hn, if_neg hn, show n.toNat = n.natAbs by omega]; rfl

set_option maxRecDepth 100000 in
set_option maxHeartbeats 4000000 in
theorem Decimal_any (n : Int) (w : World) (h1 : -67108864 ≤ n) (h2 : n ≤ 67108864) :
    Calls Tryz.prog 43 #[.int .i64 n] w fun e w' => e = .returned (.string (itoB n)) ∧ Below w.heap.size w w' := by
  by_cases h0 : n = 0
  · subst h0
    rw [show itoB 0 = { data := #[48] } from by unfold itoB; decide +kernel]
    go_enter Tryz.func43, Tryz.ntmps43
    go_wp2
    go_ret
    exact ⟨rfl, (by repeat' (first | (with_reducible exact Below.refl _ _) | (with_reducible assumption) | (with_reducible refine bl_alloc ?_ _) | (with_reducible refine bl_drew ?_) | (with_reducible refine bl_drewN ?_) | (with_reducible refine bl_setCell ?_ ?_ _) | (with_reducible refine bl_call ?_ (by with_reducible assumption)) | omega | (simp; done) | (simp; omega)))⟩
  · obtain ⟨N, hN⟩ : ∃ N, Lib.decDigits n.natAbs = N := ⟨_, rfl⟩
    have hNl : N.length ≤ 8 := by rw [← hN]; exact dec_len 8 n.natAbs (by omega) (by omega)
    have hnz : (n == 0) = false := by simpa using h0
    by_cases hneg : n < 0
    all_goals
      go_enter Tryz.func43, Tryz.ntmps43
      go_wp2_with fail
      go_loopw [0, 3] (fun n s wr => ∃ (m : Int) (B : ByteArray), -67108864 ≤ m ∧ m ≤ 67108864 ∧ n = .int .i64 m ∧ s = .string B ∧ Hid (left m.natAbs B.data.toList = N) ∧ Below w.heap.size w wr) (fun n _ _ => (intOf n).natAbs)
      case atStart => exact ⟨n, _, h1, h2, rfl, rfl, Lib.hid (by rw [← hN]; exact left_start _ (by omega)), (by repeat' (first | (with_reducible exact Below.refl _ _) | (with_reducible assumption) | (with_reducible refine bl_alloc ?_ _) | (with_reducible refine bl_drew ?_) | (with_reducible refine bl_drewN ?_) | (with_reducible refine bl_setCell ?_ ?_ _) | (with_reducible refine bl_call ?_ (by with_reducible assumption)) | omega | (simp; done) | (simp; omega)))⟩
      case round =>
        obtain ⟨m, B, m1, m2, rfl, rfl, HL, hb⟩ := hrel
        have hbs := hb.size
        have hB8 : B.size ≤ 8 := by have h := left_len m.natAbs B.data.toList; rw [HL.out] at h; simp at h; omega
        by_cases hm : m = 0
        · have hB := HL.out
          rw [hm, show (0 : Int).natAbs = 0 from rfl, left_zero, ← hN] at hB
          have HF := Lib.hid (show ∀ A : ByteArray, A.data.toList = (if n < 0 then [45] else []) → A ++ B = itoB n from fun A hA => dec_fin n A B hB hA)
          clear hB hN HL
          go_wp2
          go_ret
          first
            | exact ⟨congrArg (fun b => Ending.returned (Value.string b)) (HF.out ⟨#[45]⟩ (by rw [if_pos hneg])), (by repeat' (first | (with_reducible exact Below.refl _ _) | (with_reducible assumption) | (with_reducible refine bl_alloc ?_ _) | (with_reducible refine bl_drew ?_) | (with_reducible refine bl_drewN ?_) | (with_reducible refine bl_setCell ?_ ?_ _) | (with_reducible refine bl_call ?_ (by with_reducible assumption)) | omega | (simp; done) | (simp; omega)))⟩
            | exact ⟨congrArg (fun b => Ending.returned (Value.string b)) (HF.out ⟨#[]⟩ (by rw [if_neg (by omega)])), (by repeat' (first | (with_reducible exact Below.refl _ _) | (with_reducible assumption) | (with_reducible refine bl_alloc ?_ _) | (with_reducible refine bl_drew ?_) | (with_reducible refine bl_drewN ?_) | (with_reducible refine bl_setCell ?_ ?_ _) | (with_reducible refine bl_call ?_ (by with_reducible assumption)) | omega | (simp; done) | (simp; omega)))⟩
        · have hs := fun w => Size_at (m.tmod 10) w (by have := tmod_abs m; omega) (by have := tmod_abs m; omega)
          have hq : m.natAbs % 10 < 10 := Nat.mod_lt _ (by omega)
          have hL := HL.out
          rw [← left_step _ _ (by omega), ← tdiv_abs] at hL
          have bd := tdiv_bd m1 m2
          simp only [tmod_abs] at hs
          have hme : Hid ((m.tdiv 10).natAbs < m.natAbs) := Lib.hid (by rw [tdiv_abs]; omega)
          have e1 : ((m.natAbs % 10 : Nat) : Int).toNat = m.natAbs % 10 := Int.toNat_natCast _
          have e2 : 48 + m.natAbs % 10 = (48 + ((m.natAbs % 10 : Nat) : Int)).toNat := by omega
          rw [e2] at hL
          have hq0 : 0 ≤ ((m.natAbs % 10 : Nat) : Int) := by omega
          have hq1 : ((m.natAbs % 10 : Nat) : Int) < 10 := by omega
          clear e1 e2 hq
          generalize ((m.natAbs % 10 : Nat) : Int) = q at *
          have HL' := Lib.hid hL
          have S := Lib.hid hs
          have hv := conv_one (48 + q) (by omega) (by omega)
          clear hL hs HL hN
          go_wp2_with (go_at_call 80; (with_reducible refine (S.out _).mono ?_); rintro e w' ⟨rfl, rfl⟩)
          have hb2 : Below w.heap.size w (w'.alloc (.cells #[.int .u8 (48 + q)] 5)) := (by repeat' (first | (with_reducible exact Below.refl _ _) | (with_reducible assumption) | (with_reducible refine bl_alloc ?_ _) | (with_reducible refine bl_drew ?_) | (with_reducible refine bl_drewN ?_) | (with_reducible refine bl_setCell ?_ ?_ _) | (with_reducible refine bl_call ?_ (by with_reducible assumption)) | omega | (simp; done) | (simp; omega)))
          have HX := Lib.hid (show Hid (left (m.tdiv 10).natAbs (({ data := #[UInt8.ofNat (48 + q).toNat] } : ByteArray) ++ B).data.toList = N) from Lib.hid (by
            rw [ByteArray.data_append, Array.toList_append]; exact HL'.out))
          exact ⟨⟨m.tdiv 10, _, bd.1, bd.2, rfl, rfl, HX.out, hb2⟩, hme.out⟩

theorem fmt_three (x y r : Int) : itoB x ++ ({ data := #[32] } : ByteArray) ++ itoB y ++ ({ data := #[32] } : ByteArray) ++ itoB r = fmtB x y r := by
  apply ByteArray.ext
  apply Array.toList_inj.1
  have e : fmtL x y r = Lib.itoa x ++ 32 :: (Lib.itoa y ++ 32 :: Lib.itoa r) := by
    unfold fmtL
    rw [Lib.join_cons]
    simp [Lib.joinTail]
  rw [fmtB_list, e]
  simp only [ByteArray.data_append, Array.toList_append, itoB_list]
  simp

set_option maxRecDepth 100000 in
set_option maxHeartbeats 4000000 in
theorem rFormat_any (x y r : Int) (w : World) (h : Right x y r) :
    Calls Tryz.prog 17 #[.agg #[.int .i64 x, .int .i64 y, .int .i64 r]] w fun e w' => e = .returned (.string (fmtB x y r)) ∧ Below w.heap.size w w' := by
  have c1 := fun w => Decimal_any x w h.1.1 h.1.2.1
  have c2 := fun w => Decimal_any y w h.1.2.2.1 h.1.2.2.2
  have c3 := fun w => Decimal_any r w (by have := h.2; omega) h.2.2
  have l1 : (itoB x).size ≤ 9 := by have := (itoa_len (x := x) (by have := h.1; unfold Fits at this; omega) (by have := h.1; unfold Fits at this; omega)).1; rw [← itoB_list] at this; simpa using this
  have l2 : (itoB y).size ≤ 9 := by have := (itoa_len (x := y) (by have := h.1; unfold Fits at this; omega) (by have := h.1; unfold Fits at this; omega)).1; rw [← itoB_list] at this; simpa using this
  have l3 : (itoB r).size ≤ 9 := by have := (itoa_len (x := r) (by have := h.2; omega) (by have := h.2; omega)).1; rw [← itoB_list] at this; simpa using this
  rw [← fmt_three]
  clear h
  generalize itoB x = X at *
  generalize itoB y = Y at *
  generalize itoB r = R at *
  have C1 := Lib.hid c1
  have C2 := Lib.hid c2
  have C3 := Lib.hid c3
  clear c1 c2 c3
  go_enter Tryz.func17, Tryz.ntmps17
  go_wp2_with fail
  refine calm_all (by kernel_rfl) (by kernel_rfl) fun hG => ?_
  have hg_w := hG (w.heap.size) (by first | omega | (simp; done) | (simp; omega))
  clear hG
  repeat (go_big_quiet_step (first | (go_at_call 43; first | with_reducible exact calm_call C1.out | with_reducible exact calm_call C2.out | with_reducible exact calm_call C3.out)))
  refine wpQuiet_nil ?_
  intro w1 hb_w1
  clear hg_w
  have hs_w1 := hb_w1.size
  (try simp at hs_w1)
  have hz_w1_w : w.heap.size < w1.heap.size := (by have hs := hb_w1.size; (try simp at hs); omega)
  have hy_w1_w : w.heap.size < w1.heap.size + 1 := (by omega)
  have hx_w1_w : w.heap.size < w1.heap.size + 1 + 1 := (by omega)
  have hc_w1_w := fun o => hb_w1.cell (p := ⟨w.heap.size, o, none⟩) (by first | omega | (simp; done) | (simp; omega))
  have hf_w1_w := fun o => hb_w1.frozen (p := ⟨w.heap.size, o, none⟩) (by first | omega | (simp; done) | (simp; omega))
  go_wp2
  go_ret
  exact ⟨rfl, (by repeat' (first | (with_reducible exact Below.refl _ _) | (with_reducible assumption) | (with_reducible refine bl_alloc ?_ _) | (with_reducible refine bl_drew ?_) | (with_reducible refine bl_drewN ?_) | (with_reducible refine bl_setCell ?_ ?_ _) | (with_reducible refine bl_call ?_ (by with_reducible assumption)) | omega | (simp; done) | (simp; omega)))⟩
end Go.Proofs.YtjgmjnjpgdadhaaGreatDoor

