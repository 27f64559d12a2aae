/- The text of a ball of any floats. -/
import Derived.Test.YtjgmjnjpgdadhaaGreatDoorFormatWalk
import Derived.Test.YtjgmjnjpgdadhaaGreatDoorFloatBall
namespace Go.Proofs.YtjgmjnjpgdadhaaGreatDoor
open Go.RowKit Go Go.Shelf

/-- The library's table of powers lies as start-up lays it. -/
def Tab (w : World) : Prop := Lib.TabIs Tryz.prog w "internal/strconv.uint64pow10" .u64 Lib.pow10Tab
theorem Tab.below {w w' : World} (h : Tab w) (hb : Below w.heap.size w w') : Tab w' := var_below hb g_tab (var_lt g_tab h) h
theorem itoa_t (n : Int) (w : World) (h : Tab w) (h0 : -9223372036854775808 ≤ n) (h1 : n ≤ 9223372036854775807) :
    Calls Tryz.prog 36 #[.int .i64 n] w fun e w' => e = .returned (.string (itoB n)) ∧ Below w.heap.size w w' := by
  unfold itoB
  exact (Tryz.strconv_Itoa n h0 h1 w h).mono fun _ _ ⟨he, k, os, hw⟩ => ⟨he, by rw [hw]; exact below_grow w k os⟩

set_option maxHeartbeats 400000 in
theorem Format_wrong (a b : Nat) (r : Int) (w : World) (hb : Words a b) (h : errF a b r ≠ 0) :
    Calls Tryz.prog 12 #[.agg #[.complex .f64 a b, .int .i64 r]] w fun e w' => e = .returned (.string { data := #[] }) ∧ Below w.heap.size w w' := by
  have hc := fun w => read_wrong a b r w hb h
  generalize errF a b r = q at *
  generalize wx a b = x at *
  generalize wy a b = y at *
  have C := Lib.hid hc
  clear hc
  go_enter Tryz.func12, Tryz.ntmps12
  go_wp2_with fail
  refine (C.out _).mono ?_
  rintro e w1 ⟨rfl, hb_w1⟩
  have hs_w1 := hb_w1.size
  (try simp at hs_w1)
  go_wp2
  go_ret
  exact ⟨rfl, (by repeat' (first | (with_reducible exact Below.refl _ _) | (with_reducible assumption) | (with_reducible refine bl_alloc ?_ _) | (with_reducible refine bl_drew ?_) | (with_reducible refine bl_drewN ?_) | (with_reducible refine bl_setCell ?_ ?_ _) | (with_reducible refine bl_call ?_ (by with_reducible assumption)) | omega | (simp; done) | (simp; omega)))⟩

set_option maxRecDepth 100000 in
set_option maxHeartbeats 4000000 in
theorem Format_good (a b : Nat) (x y r : Int) (w : World) (hS : Tab w) (h : Right x y r) (hC : ∀ w, Calls Tryz.prog 29 #[.agg #[.complex .f64 a b, .int .i64 r]] w fun e w' => e = .returned (.tuple #[.agg #[.int .i64 x, .int .i64 y, .int .i64 r], .int .i64 0]) ∧ Below w.heap.size w w') :
    Calls Tryz.prog 12 #[.agg #[.complex .f64 a b, .int .i64 r]] w fun e w' => e = .returned (.string (fmtB x y r)) ∧ Below w.heap.size w w' := by
  obtain ⟨i0, hi, hz0, hz1, hz2⟩ := info_parts info_str
  have HR := Lib.hid h
  obtain ⟨⟨h1, h2, h3, h4⟩, h5, h6⟩ := h
  have C := Lib.hid hC
  clear hC
  have j0 : ∀ w, (Instr.index 72 (.agg #[.int .i64 x, .int .i64 y, .int .i64 r]) (.int .i64 0)).run Tryz.prog w = .ok (.int .i64 x) w := fun _ => by kernel_rfl
  have j1 : ∀ w, (Instr.index 72 (.agg #[.int .i64 x, .int .i64 y, .int .i64 r]) (.int .i64 1)).run Tryz.prog w = .ok (.int .i64 y) w := fun _ => by kernel_rfl
  have j2 : ∀ w, (Instr.index 72 (.agg #[.int .i64 x, .int .i64 y, .int .i64 r]) (.int .i64 2)).run Tryz.prog w = .ok (.int .i64 r) w := fun _ => by kernel_rfl
  go_enter Tryz.func12, Tryz.ntmps12
  go_wp2_with fail
  refine (C.out _).mono ?_
  rintro e w1 ⟨rfl, hb_w1⟩
  have hs_w1 := hb_w1.size
  (try simp at hs_w1)
  have hz_w1_w : w.heap.size < w1.heap.size := (by have hs := hb_w1.size; (try simp at hs); omega)
  have hy_w1_w : w.heap.size < w1.heap.size + 1 := (by omega)
  have hx_w1_w : w.heap.size < w1.heap.size + 1 + 1 := (by omega)
  have hc_w1_w := fun o => hb_w1.cell (p := ⟨w.heap.size, o, none⟩) (by first | omega | (simp; done) | (simp; omega))
  have hf_w1_w := fun o => hb_w1.frozen (p := ⟨w.heap.size, o, none⟩) (by first | omega | (simp; done) | (simp; omega))
  clear hc_w1_w hf_w1_w
  go_wp2_with fail
  go_loopw [5, 24] (fun o i wr => ∃ k : Nat, k ≤ 3 ∧ i = .int .i64 k ∧ wr.ownsRow w.heap.size 9 1 o k (fmtV x y r k) ∧ Below w.heap.size w wr) (fun _ i _ => 3 - (intOf i).toNat)
  case atStart => exact ⟨0, by omega, rfl, by rw [fmtV_0]; exact World.ownsRow_nil _ _ _ _, (by repeat' (first | (with_reducible exact Below.refl _ _) | (with_reducible assumption) | (with_reducible refine bl_alloc ?_ _) | (with_reducible refine bl_drew ?_) | (with_reducible refine bl_drewN ?_) | (with_reducible refine bl_setCell ?_ ?_ _) | (with_reducible refine bl_call ?_ (by with_reducible assumption)) | omega | (simp; done) | (simp; omega)))⟩
  case round =>
    obtain ⟨k, hk, rfl, hown, hb⟩ := hrel
    have hbs := hb.size
    have hk4 : k = 0 ∨ k = 1 ∨ k = 2 ∨ k = 3 := by omega
    rcases hk4 with rfl | rfl | rfl | rfl
    · go_wp2_with fail
      refine (itoa_t x _ (hS.below (by repeat' (first | (with_reducible exact Below.refl _ _) | (with_reducible assumption) | (with_reducible refine bl_alloc ?_ _) | (with_reducible refine bl_drew ?_) | (with_reducible refine bl_drewN ?_) | (with_reducible refine bl_setCell ?_ ?_ _) | (with_reducible refine bl_call ?_ (by with_reducible assumption)) | omega | (simp; done) | (simp; omega)))) (by omega) (by omega)).mono ?_
      rintro e w2 ⟨rfl, hb_w2⟩
      have own2 := own_below hown hb_w2
      have hb2 : Below w.heap.size w w2 := (by repeat' (first | (with_reducible exact Below.refl _ _) | (with_reducible assumption) | (with_reducible refine bl_alloc ?_ _) | (with_reducible refine bl_drew ?_) | (with_reducible refine bl_drewN ?_) | (with_reducible refine bl_setCell ?_ ?_ _) | (with_reducible refine bl_call ?_ (by with_reducible assumption)) | omega | (simp; done) | (simp; omega)))
      have hs2 := hb2.size
      clear hown hb_w2
      go_wp2_with (at_builtin; refine wpList_append_own _ rfl _ _ 71 rfl w.heap.size 9 i0 (.string ByteArray.empty) 1 16 Tryz.underlying71 hi hz0 hz1 hz2 rfl (by decide) _ _ _ rfl (own2.alloc _) ⟨w2.heap.size, 0, none⟩ 1 1 [.string (itoB x)] rfl rfl ?a1 ?a2 ?a3 ?a4 ?a5 ?_)
      case a1 =>
        intro j u hj
        match j, hj with
        | 0, hj => simp at hj; subst hj; simp [Addr.add]
      case a2 => first | rfl | (intro u hu; simp at hu; subst hu; rfl)
      case a3 => unfold maxLen; omega
      case a4 => omega
      case a5 => simp; omega
      intro v' w3 hown' hgrow' _
      have hb3 : Below w.heap.size w w3 := (hb2.alloc hs2 _).grown hgrow' (by simp; omega) (fun j hj => (own2.lt j hj).1)
      rw [← fmtV_1] at hown'
      clear hgrow' own2
      go_wp2
      go_roundw
      case rel => exact ⟨1, by omega, by simp, by simpa using hown', hb3⟩
      case measure => simp [intOf]
    · go_wp2_with fail
      refine (itoa_t y _ (hS.below (by repeat' (first | (with_reducible exact Below.refl _ _) | (with_reducible assumption) | (with_reducible refine bl_alloc ?_ _) | (with_reducible refine bl_drew ?_) | (with_reducible refine bl_drewN ?_) | (with_reducible refine bl_setCell ?_ ?_ _) | (with_reducible refine bl_call ?_ (by with_reducible assumption)) | omega | (simp; done) | (simp; omega)))) (by omega) (by omega)).mono ?_
      rintro e w2 ⟨rfl, hb_w2⟩
      have own2 := own_below hown hb_w2
      have hb2 : Below w.heap.size w w2 := (by repeat' (first | (with_reducible exact Below.refl _ _) | (with_reducible assumption) | (with_reducible refine bl_alloc ?_ _) | (with_reducible refine bl_drew ?_) | (with_reducible refine bl_drewN ?_) | (with_reducible refine bl_setCell ?_ ?_ _) | (with_reducible refine bl_call ?_ (by with_reducible assumption)) | omega | (simp; done) | (simp; omega)))
      have hs2 := hb2.size
      clear hown hb_w2
      go_wp2_with (at_builtin; refine wpList_append_own _ rfl _ _ 71 rfl w.heap.size 9 i0 (.string ByteArray.empty) 1 16 Tryz.underlying71 hi hz0 hz1 hz2 rfl (by decide) _ _ _ rfl (own2.alloc _) ⟨w2.heap.size, 0, none⟩ 1 1 [.string (itoB y)] rfl rfl ?a1 ?a2 ?a3 ?a4 ?a5 ?_)
      case a1 =>
        intro j u hj
        match j, hj with
        | 0, hj => simp at hj; subst hj; simp [Addr.add]
      case a2 => first | rfl | (intro u hu; simp at hu; subst hu; rfl)
      case a3 => unfold maxLen; omega
      case a4 => omega
      case a5 => simp; omega
      intro v' w3 hown' hgrow' _
      have hb3 : Below w.heap.size w w3 := (hb2.alloc hs2 _).grown hgrow' (by simp; omega) (fun j hj => (own2.lt j hj).1)
      rw [← fmtV_2] at hown'
      clear hgrow' own2
      go_wp2
      go_roundw
      case rel => exact ⟨2, by omega, by simp, by simpa using hown', hb3⟩
      case measure => simp [intOf]
    · go_wp2_with fail
      refine (itoa_t r _ (hS.below (by repeat' (first | (with_reducible exact Below.refl _ _) | (with_reducible assumption) | (with_reducible refine bl_alloc ?_ _) | (with_reducible refine bl_drew ?_) | (with_reducible refine bl_drewN ?_) | (with_reducible refine bl_setCell ?_ ?_ _) | (with_reducible refine bl_call ?_ (by with_reducible assumption)) | omega | (simp; done) | (simp; omega)))) (by omega) (by omega)).mono ?_
      rintro e w2 ⟨rfl, hb_w2⟩
      have own2 := own_below hown hb_w2
      have hb2 : Below w.heap.size w w2 := (by repeat' (first | (with_reducible exact Below.refl _ _) | (with_reducible assumption) | (with_reducible refine bl_alloc ?_ _) | (with_reducible refine bl_drew ?_) | (with_reducible refine bl_drewN ?_) | (with_reducible refine bl_setCell ?_ ?_ _) | (with_reducible refine bl_call ?_ (by with_reducible assumption)) | omega | (simp; done) | (simp; omega)))
      have hs2 := hb2.size
      clear hown hb_w2
      go_wp2_with (at_builtin; refine wpList_append_own _ rfl _ _ 71 rfl w.heap.size 9 i0 (.string ByteArray.empty) 1 16 Tryz.underlying71 hi hz0 hz1 hz2 rfl (by decide) _ _ _ rfl (own2.alloc _) ⟨w2.heap.size, 0, none⟩ 1 1 [.string (itoB r)] rfl rfl ?a1 ?a2 ?a3 ?a4 ?a5 ?_)
      case a1 =>
        intro j u hj
        match j, hj with
        | 0, hj => simp at hj; subst hj; simp [Addr.add]
      case a2 => first | rfl | (intro u hu; simp at hu; subst hu; rfl)
      case a3 => unfold maxLen; omega
      case a4 => omega
      case a5 => simp; omega
      intro v' w3 hown' hgrow' _
      have hb3 : Below w.heap.size w w3 := (hb2.alloc hs2 _).grown hgrow' (by simp; omega) (fun j hj => (own2.lt j hj).1)
      rw [← fmtV_3] at hown'
      clear hgrow' own2
      go_wp2
      go_roundw
      case rel => exact ⟨3, by omega, by simp, by simpa using hown', hb3⟩
      case measure => simp [intOf]
    · rw [fmtV_all] at hown
      obtain ⟨g, cap, rfl, hg, hc, c0, c1, c2⟩ := own_three hown
      have J := Lib.hid (fun w' (h0 : w'.cell? ⟨g, 0, none⟩ = some (.string (itoB x))) h1 h2 hg => join_three g cap x y r w' h0 h1 h2 hg hc HR.out)
      go_wp2_with fail
      refine (J.out _ (by simpa using c0) (by simpa using c1) (by simpa using c2) hg).mono ?_
      rintro e w2 ⟨rfl, hb_w2⟩
      go_wp2
      go_ret
      exact ⟨rfl, (by repeat' (first | (with_reducible exact Below.refl _ _) | (with_reducible assumption) | (with_reducible refine bl_alloc ?_ _) | (with_reducible refine bl_drew ?_) | (with_reducible refine bl_drewN ?_) | (with_reducible refine bl_setCell ?_ ?_ _) | (with_reducible refine bl_call ?_ (by with_reducible assumption)) | omega | (simp; done) | (simp; omega)))⟩
end Go.Proofs.YtjgmjnjpgdadhaaGreatDoor

