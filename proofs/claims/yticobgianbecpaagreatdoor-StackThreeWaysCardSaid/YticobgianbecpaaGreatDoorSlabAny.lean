/- The shares of a right slab: the program's walk. -/
import Derived.Test.YticobgianbecpaaGreatDoorKSlab
import Derived.Test.YticobgianbecpaaGreatDoorKEnd
import Derived.Deep.MidRow
import Derived.Deep.RegionHeld3
namespace Go.Proofs.YticobgianbecpaaGreatDoor
open Go Go.Sort Go.RowKit Go.Shelf

/-- The block that a slot points to. -/
def sBlk (a : Act) (i : Nat) : Nat := match a.eval (.tmp i) with | .pointer (some p) => p.block | .slice (some p) _ _ => p.block | _ => 0
/-- A region that draws its order and lays two blocks: what is known behind it. -/
theorem wp_cutS {P : Program} {c : Code} {Q : Exit → Act → World → Prop} {a : Act} {w : World} (F : Nat → Nat → Act → Act) (i j : Nat) (R : Nat → World → Prop)
    (h1 : c.wp P (fun e a' w' => e = .normal ∧ ∀ b0 b1, sBlk a' i = b0 → sBlk a' j = b1 → a' = F b0 b1 a ∧ R b0 w') a w) (h2 : ∀ b0 b1 w', R b0 w' → Q .normal (F b0 b1 a) w') : c.wp P Q a w :=
  Code.wp_mono (fun e a' w' h => by obtain ⟨rfl, h⟩ := h; obtain ⟨k, hR⟩ := h _ _ rfl rfl; rw [k]; exact h2 _ _ w' hR) h1

set_option maxRecDepth 100000 in
set_option maxHeartbeats 64000000 in
theorem slab_good (s : Slb) (hs : SlbOk s) (c0 c1 f0 f1 i0 i1 : Int) (h1 : slLo1 s < 1048576)
    (CK : ∀ w, Calls Tryz.prog 17 #[.agg #[.int .i64 s.a0, .int .i64 s.a1, .int .i64 s.b0, .int .i64 s.b1, .int .i64 c0, .int .i64 c1, .int .i64 s.d0, .int .i64 s.d1, .int .i64 s.e0, .int .i64 s.e1, .int .i64 f0, .int .i64 f1, .int .i64 s.g0, .int .i64 s.g1, .int .i64 s.h0, .int .i64 s.h1, .int .i64 i0, .int .i64 i1, .int .i64 s.n0, .int .i64 s.n1]] w fun e w' => e = .returned (.int .i64 0) ∧ Below w.heap.size w w') (w : World) :
    Calls Tryz.prog 15 #[.agg #[.int .i64 s.a0, .int .i64 s.a1, .int .i64 s.b0, .int .i64 s.b1, .int .i64 c0, .int .i64 c1, .int .i64 s.d0, .int .i64 s.d1, .int .i64 s.e0, .int .i64 s.e1, .int .i64 f0, .int .i64 f1, .int .i64 s.g0, .int .i64 s.g1, .int .i64 s.h0, .int .i64 s.h1, .int .i64 i0, .int .i64 i1, .int .i64 s.n0, .int .i64 s.n1]] w fun e w' => e = .returned (.tuple #[(slabR s).val, .int .i64 0]) ∧ Below w.heap.size w w' := by
  have CS := Lib.hid CK
  have lt0 : slLo0 s < 1048576 := by have := hs.lo; omega
  have P1 : ∀ g cap w, g < w.heap.size → w.cell? ⟨g, 0, none⟩ = some (.int .i64 s.n0) → w.cell? ⟨g, 1, none⟩ = some (.int .i64 s.n1) → w.cell? ⟨g, 2, none⟩ = some (.int .i64 s.g0) → w.cell? ⟨g, 3, none⟩ = some (.int .i64 s.g1) →
      Calls Tryz.prog 62 #[.agg #[.int .i64 s.n0, .int .i64 s.n1], .slice (some ⟨g, 0, none⟩) 2 cap] w fun E w' => E = .returned (.agg #[.int .i64 (slTh0 s), .int .i64 (slTh1 s)]) ∧ Below w.heap.size w w' := fun g cap w hg k0 k1 k2 k3 => by
    unfold slTh0 slTh1
    exact product_two _ _ _ _ _ _ hs.n0 hs.n1 hs.n0 hs.n1 hs.g0 hs.g1 g cap w hg k0 k1 k2 k3
  have P2 : ∀ g cap w, g < w.heap.size → w.cell? ⟨g, 0, none⟩ = some (.int .i64 (slTh0 s)) → w.cell? ⟨g, 1, none⟩ = some (.int .i64 (slTh1 s)) →
      Calls Tryz.prog 62 #[.agg #[.int .i64 s.d0, .int .i64 s.d1], .slice (some ⟨g, 0, none⟩) 1 cap] w fun E w' => E = .returned (.agg #[.int .i64 (slLo0 s), .int .i64 (slLo1 s)]) ∧ Below w.heap.size w w' := fun g cap w hg k0 k1 => by
    unfold slLo0 slLo1
    exact product_one _ _ _ _ hs.d0 hs.d1 hs.th0 hs.th1 g cap w hg k0 k1
  have P3 : ∀ g cap w, g < w.heap.size → w.cell? ⟨g, 0, none⟩ = some (.int .i64 (slTh0 s)) → w.cell? ⟨g, 1, none⟩ = some (.int .i64 (slTh1 s)) → w.cell? ⟨g, 2, none⟩ = some (.int .i64 s.e0) → w.cell? ⟨g, 3, none⟩ = some (.int .i64 s.e1) →
      Calls Tryz.prog 62 #[.agg #[.int .i64 s.b0, .int .i64 s.b1], .slice (some ⟨g, 0, none⟩) 2 cap] w fun E w' => E = .returned (.agg #[.int .i64 (slBk0 s), .int .i64 (slBk1 s)]) ∧ Below w.heap.size w w' := fun g cap w hg k0 k1 k2 k3 => by
    unfold slBk0 slBk1
    exact product_two _ _ _ _ _ _ hs.b0 hs.b1 hs.th0 hs.th1 hs.e0 hs.e1 g cap w hg k0 k1 k2 k3
  have P4 : ∀ g cap w, g < w.heap.size → w.cell? ⟨g, 0, none⟩ = some (.int .i64 s.n0) → w.cell? ⟨g, 1, none⟩ = some (.int .i64 s.n1) → w.cell? ⟨g, 2, none⟩ = some (.int .i64 s.h0) → w.cell? ⟨g, 3, none⟩ = some (.int .i64 s.h1) →
      Calls Tryz.prog 62 #[.agg #[.int .i64 s.b0, .int .i64 s.b1], .slice (some ⟨g, 0, none⟩) 2 cap] w fun E w' => E = .returned (.agg #[.int .i64 (slTt0 s), .int .i64 (slTt1 s)]) ∧ Below w.heap.size w w' := fun g cap w hg k0 k1 k2 k3 => by
    unfold slTt0 slTt1
    exact product_two _ _ _ _ _ _ hs.b0 hs.b1 hs.n0 hs.n1 hs.h0 hs.h1 g cap w hg k0 k1 k2 k3
  have G3 : ∀ g w, g < w.heap.size → w.cell? ⟨g, 0, none⟩ = some (.int .i64 (slLo0 s)) → w.cell? ⟨g, 1, none⟩ = some (.int .i64 (slLo1 s)) →
      Calls Tryz.prog 63 #[.agg #[.int .i64 (slBk0 s), .int .i64 (slBk1 s)], .pointer (some ⟨g, 0, none⟩)] w fun e w' => e = .returned (.agg #[.int .i64 (slQ0 s), .int .i64 (slQ1 s)]) ∧ Below w.heap.size w w' := fun g w hg k0 k1 => by
    unfold slQ0 slQ1 geoD geoU
    exact geo_any _ _ _ _ hs.bk0 hs.bk1 hs.lo0 hs.lo1 lt0 h1 g w hg k0 k1
  have G4 : ∀ g w, g < w.heap.size → w.cell? ⟨g, 0, none⟩ = some (.int .i64 (slLo0 s)) → w.cell? ⟨g, 1, none⟩ = some (.int .i64 (slLo1 s)) →
      Calls Tryz.prog 63 #[.agg #[.int .i64 (slTt0 s), .int .i64 (slTt1 s)], .pointer (some ⟨g, 0, none⟩)] w fun e w' => e = .returned (.agg #[.int .i64 (slU0 s), .int .i64 (slU1 s)]) ∧ Below w.heap.size w w' := fun g w hg k0 k1 => by
    unfold slU0 slU1 geoD geoU
    exact geo_any _ _ _ _ hs.tt0 hs.tt1 hs.lo0 hs.lo1 lt0 h1 g w hg k0 k1
  have q0 : 0 ≤ slQ0 s ∧ slQ0 s ≤ 1099511627776 := by unfold slQ0; exact geoD_bd hs.bk0 lt0
  have q1 : 0 ≤ slQ1 s ∧ slQ1 s ≤ 1099512676351 := by unfold slQ1; exact geoU_bd hs.bk1 h1 hs.lo1.1
  have u0 : 0 ≤ slU0 s ∧ slU0 s ≤ 1099511627776 := by unfold slU0; exact geoD_bd hs.tt0 lt0
  have u1 : 0 ≤ slU1 s ∧ slU1 s ≤ 1099512676351 := by unfold slU1; exact geoU_bd hs.tt1 h1 hs.lo1.1
  have n1 : (slLo1 s == 1048576) = false := by rw [beq_eq_false_iff_ne]; omega
  obtain ⟨k1, v1, z1⟩ := sl_sum hs.a0 q0.1 (Int.le_trans q0.2 (by decide))
  obtain ⟨k2, v2, z2⟩ := sl_sum hs.a1 q1.1 q1.2
  have C1 := fun w => cut2_any (s.a0 + slQ0 s) (s.a1 + slQ1 s) w
  have C2 := fun w => cut2_any (slU0 s) (slU1 s) w
  have RS := fun w => rest_any (cutO (s.a0 + slQ0 s)) (cutO (s.a1 + slQ1 s)) (cutO (slU0 s)) (cutO (slU1 s)) w (cutO_bd z1) (cutO_bd z2) (cutO_bd u0.1) (cutO_bd u1.1)
  unfold slabR Shr.val
  dsimp only
  generalize pos (1048576 - cutO (s.a1 + slQ1 s) - cutO (slU1 s)) = A0 at *
  generalize pos (1048576 - cutO (s.a0 + slQ0 s) - cutO (slU0 s)) = A1 at *
  generalize cutO (s.a0 + slQ0 s) = R0 at *
  generalize cutO (s.a1 + slQ1 s) = R1 at *
  generalize cutO (slU0 s) = T0 at *
  generalize cutO (slU1 s) = T1 at *
  generalize slTh0 s = th0 at *
  generalize slTh1 s = th1 at *
  generalize slLo0 s = lo0 at *
  generalize slLo1 s = lo1 at *
  generalize slBk0 s = bk0 at *
  generalize slBk1 s = bk1 at *
  generalize slTt0 s = tt0 at *
  generalize slTt1 s = tt1 at *
  generalize slQ0 s = x0 at *
  generalize slQ1 s = x1 at *
  generalize slU0 s = y0 at *
  generalize slU1 s = y1 at *
  obtain ⟨a0, a1, b0, b1, d0, d1, e0, e1, g0, g1, p0, p1, m0, m1⟩ := s
  dsimp only at *
  have P1 := Lib.hid P1
  have P2 := Lib.hid P2
  have P3 := Lib.hid P3
  have P4 := Lib.hid P4
  have G3 := Lib.hid G3
  have G4 := Lib.hid G4
  have C1 := Lib.hid C1
  have C2 := Lib.hid C2
  have RS := Lib.hid RS
  clear hs lt0 h1 q0 q1 u0 u1 z1 z2 CK
  -- the walk
  go_enter Tryz.func15, Tryz.ntmps15
  repeat (first | (with_reducible refine wp_markr 1 ?_) | go_values | go_skip | go_guarded | go_step | go_upon | (simp only []; go_simp))
  refine wp_named (fun w1 hN_w1 => ?_)
  have XB : ∀ o, w1.cell? ⟨w.heap.size, o, none⟩ = ([.int .i64 a0, .int .i64 a1, .int .i64 b0, .int .i64 b1, .int .i64 c0, .int .i64 c1, .int .i64 d0, .int .i64 d1, .int .i64 e0, .int .i64 e1, .int .i64 f0, .int .i64 f1, .int .i64 g0, .int .i64 g1, .int .i64 p0, .int .i64 p1, .int .i64 i0, .int .i64 i1, .int .i64 m0, .int .i64 m1] : List Value)[o]? := fun o => by rw [hN_w1]; go_simp
  have OB : ∀ o, w1.cell? ⟨w.heap.size + 1, o, none⟩ = ([.int .i64 0, .int .i64 0, .int .i64 0, .int .i64 0, .int .i64 0, .int .i64 0] : List Value)[o]? := fun o => by rw [hN_w1]; go_simp
  have OF : ∀ o, w1.frozen? ⟨w.heap.size + 1, o, none⟩ = false := fun o => by rw [hN_w1]; go_simp
  have hv_w1 : Below w.heap.size w w1 := by rw [hN_w1]; exact blw
  have lt_w1 : w.heap.size + 1 < w1.heap.size := by rw [hN_w1]; first | omega | (simp; done) | (simp; omega)
  have n_w1 : ¬ w.heap.size = w1.heap.size := (by omega)
  have m_w1 : ¬ w.heap.size + 1 = w1.heap.size := (by omega)
  clear hN_w1
  have XR : w1.rangeAt w.heap.size 0 [.int .i64 a0, .int .i64 a1, .int .i64 b0, .int .i64 b1, .int .i64 c0, .int .i64 c1, .int .i64 d0, .int .i64 d1, .int .i64 e0, .int .i64 e1, .int .i64 f0, .int .i64 f1, .int .i64 g0, .int .i64 g1, .int .i64 p0, .int .i64 p1, .int .i64 i0, .int .i64 i1, .int .i64 m0, .int .i64 m1] := fun j v hv => by rw [Nat.zero_add]; exact (XB j).trans hv
  have XB_w1 := Lib.hid XB
  have OB_w1 := Lib.hid OB
  have OF_w1 := Lib.hid OF
  clear XB OB OF
  refine wp_region_list ?_
  refine wpList_load_mid rfl 43 (.tmp 1) rfl w.heap.size 0 rfl [.int .i64 a0, .int .i64 a1, .int .i64 b0, .int .i64 b1, .int .i64 c0, .int .i64 c1, .int .i64 d0, .int .i64 d1, .int .i64 e0, .int .i64 e1, .int .i64 f0, .int .i64 f1, .int .i64 g0, .int .i64 g1, .int .i64 p0, .int .i64 p1, .int .i64 i0, .int .i64 i1, .int .i64 m0, .int .i64 m1] _ XR Tryz.underlying43 rfl (by kernel_rfl) ?_
  clear XR
  go_wp2_with fail
  refine (CS.out _).mono ?_
  rintro e w2 ⟨rfl, hb_w2⟩
  have hk_w2 : Below w1.heap.size w1 w2 := blw
  have XB_w2 := Lib.hid (fun o => (hk_w2.cell (p := ⟨w.heap.size, o, none⟩) (show w.heap.size < w1.heap.size by omega)).trans (XB_w1.out o))
  have OB_w2 := Lib.hid (fun o => (hk_w2.cell (p := ⟨w.heap.size + 1, o, none⟩) lt_w1).trans (OB_w1.out o))
  have OF_w2 := Lib.hid (fun o => (hk_w2.frozen (p := ⟨w.heap.size + 1, o, none⟩) lt_w1).trans (OF_w1.out o))
  have hv_w2 : Below w.heap.size w w2 := Below.trans hv_w1 (hk_w2.mono (by omega))
  have lt_w2 : w.heap.size + 1 < w2.heap.size := Nat.lt_of_lt_of_le lt_w1 hk_w2.size
  have ltb_w2 : w.heap.size < w2.heap.size := (by omega)
  have n_w2 : ¬ w.heap.size = w2.heap.size := (by omega)
  have m_w2 : ¬ w.heap.size + 1 = w2.heap.size := (by omega)
  have le_w2 := hk_w2.size
  clear XB_w1 OB_w1 OF_w1 hv_w1 hk_w2 n_w1 m_w1
  clear hb_w2 CS
  have x18_w2 : w2.cell? ⟨w.heap.size, 18, none⟩ = some (.int .i64 m0) := (XB_w2.out 18).trans rfl
  have x19_w2 : w2.cell? ⟨w.heap.size, 19, none⟩ = some (.int .i64 m1) := (XB_w2.out 19).trans rfl
  have x12_w2 : w2.cell? ⟨w.heap.size, 12, none⟩ = some (.int .i64 g0) := (XB_w2.out 12).trans rfl
  have x13_w2 : w2.cell? ⟨w.heap.size, 13, none⟩ = some (.int .i64 g1) := (XB_w2.out 13).trans rfl
  go_wp2_with fail
  refine (P1.out _ _ _ lto (by go_simp) (by go_simp) (by go_simp) (by go_simp)).mono ?_
  rintro e w3 ⟨rfl, hb_w3⟩
  have hk_w3 : Below w2.heap.size w2 w3 := blw
  have XB_w3 := Lib.hid (fun o => (hk_w3.cell (p := ⟨w.heap.size, o, none⟩) (show w.heap.size < w2.heap.size by omega)).trans (XB_w2.out o))
  have OB_w3 := Lib.hid (fun o => (hk_w3.cell (p := ⟨w.heap.size + 1, o, none⟩) lt_w2).trans (OB_w2.out o))
  have OF_w3 := Lib.hid (fun o => (hk_w3.frozen (p := ⟨w.heap.size + 1, o, none⟩) lt_w2).trans (OF_w2.out o))
  have hv_w3 : Below w.heap.size w w3 := Below.trans hv_w2 (hk_w3.mono (by omega))
  have lt_w3 : w.heap.size + 1 < w3.heap.size := Nat.lt_of_lt_of_le lt_w2 hk_w3.size
  have ltb_w3 : w.heap.size < w3.heap.size := (by omega)
  have n_w3 : ¬ w.heap.size = w3.heap.size := (by omega)
  have m_w3 : ¬ w.heap.size + 1 = w3.heap.size := (by omega)
  have le_w3 := hk_w3.size
  clear XB_w2 OB_w2 OF_w2 hv_w2 hk_w3 n_w2 m_w2
  clear x18_w2 x19_w2 x12_w2 x13_w2
  clear hb_w3 P1
  have x6_w3 : w3.cell? ⟨w.heap.size, 6, none⟩ = some (.int .i64 d0) := (XB_w3.out 6).trans rfl
  have x7_w3 : w3.cell? ⟨w.heap.size, 7, none⟩ = some (.int .i64 d1) := (XB_w3.out 7).trans rfl
  go_wp2_with fail
  refine (P2.out _ _ _ lto (by go_simp) (by go_simp)).mono ?_
  rintro e w4 ⟨rfl, hb_w4⟩
  have t0_w4 : w4.cell? ⟨w3.heap.size, 0, none⟩ = some (.int .i64 th0) := keepC hb_w4 (by go_simp)
  have t1_w4 : w4.cell? ⟨w3.heap.size, 1, none⟩ = some (.int .i64 th1) := keepC hb_w4 (by go_simp)
  have lt3_w4 : w3.heap.size < w4.heap.size := World.block_lt_of_cell? _ _ t0_w4
  have hk_w4 : Below w3.heap.size w3 w4 := blw
  have XB_w4 := Lib.hid (fun o => (hk_w4.cell (p := ⟨w.heap.size, o, none⟩) (show w.heap.size < w3.heap.size by omega)).trans (XB_w3.out o))
  have OB_w4 := Lib.hid (fun o => (hk_w4.cell (p := ⟨w.heap.size + 1, o, none⟩) lt_w3).trans (OB_w3.out o))
  have OF_w4 := Lib.hid (fun o => (hk_w4.frozen (p := ⟨w.heap.size + 1, o, none⟩) lt_w3).trans (OF_w3.out o))
  have hv_w4 : Below w.heap.size w w4 := Below.trans hv_w3 (hk_w4.mono (by omega))
  have lt_w4 : w.heap.size + 1 < w4.heap.size := Nat.lt_of_lt_of_le lt_w3 hk_w4.size
  have ltb_w4 : w.heap.size < w4.heap.size := (by omega)
  have n_w4 : ¬ w.heap.size = w4.heap.size := (by omega)
  have m_w4 : ¬ w.heap.size + 1 = w4.heap.size := (by omega)
  have le_w4 := hk_w4.size
  clear XB_w3 OB_w3 OF_w3 hv_w3 hk_w4 n_w3 m_w3
  clear x6_w3 x7_w3
  clear hb_w4 P2
  have n3_w4 : ¬ w3.heap.size = w4.heap.size := (by omega)
  have x2_w4 : w4.cell? ⟨w.heap.size, 2, none⟩ = some (.int .i64 b0) := (XB_w4.out 2).trans rfl
  have x3_w4 : w4.cell? ⟨w.heap.size, 3, none⟩ = some (.int .i64 b1) := (XB_w4.out 3).trans rfl
  have x8_w4 : w4.cell? ⟨w.heap.size, 8, none⟩ = some (.int .i64 e0) := (XB_w4.out 8).trans rfl
  have x9_w4 : w4.cell? ⟨w.heap.size, 9, none⟩ = some (.int .i64 e1) := (XB_w4.out 9).trans rfl
  go_wp2_with fail
  refine (P3.out _ _ _ lto (by go_simp) (by go_simp) (by go_simp) (by go_simp)).mono ?_
  rintro e w5 ⟨rfl, hb_w5⟩
  have l0_w5 : w5.cell? ⟨w4.heap.size, 0, none⟩ = some (.int .i64 lo0) := keepC hb_w5 (by go_simp)
  have l1_w5 : w5.cell? ⟨w4.heap.size, 1, none⟩ = some (.int .i64 lo1) := keepC hb_w5 (by go_simp)
  have lt4_w5 : w4.heap.size < w5.heap.size := World.block_lt_of_cell? _ _ l0_w5
  have hk_w5 : Below w4.heap.size w4 w5 := blw
  have XB_w5 := Lib.hid (fun o => (hk_w5.cell (p := ⟨w.heap.size, o, none⟩) (show w.heap.size < w4.heap.size by omega)).trans (XB_w4.out o))
  have OB_w5 := Lib.hid (fun o => (hk_w5.cell (p := ⟨w.heap.size + 1, o, none⟩) lt_w4).trans (OB_w4.out o))
  have OF_w5 := Lib.hid (fun o => (hk_w5.frozen (p := ⟨w.heap.size + 1, o, none⟩) lt_w4).trans (OF_w4.out o))
  have hv_w5 : Below w.heap.size w w5 := Below.trans hv_w4 (hk_w5.mono (by omega))
  have lt_w5 : w.heap.size + 1 < w5.heap.size := Nat.lt_of_lt_of_le lt_w4 hk_w5.size
  have ltb_w5 : w.heap.size < w5.heap.size := (by omega)
  have n_w5 : ¬ w.heap.size = w5.heap.size := (by omega)
  have m_w5 : ¬ w.heap.size + 1 = w5.heap.size := (by omega)
  have le_w5 := hk_w5.size
  clear XB_w4 OB_w4 OF_w4 hv_w4 hk_w5 n_w4 m_w4
  clear x2_w4 x3_w4 x8_w4 x9_w4
  clear hb_w5 P3 t0_w4 t1_w4
  go_wp2_with fail
  refine (G3.out _ _ lto (by go_simp) (by go_simp)).mono ?_
  rintro e w6 ⟨rfl, hb_w6⟩
  have l0_w6 : w6.cell? ⟨w4.heap.size, 0, none⟩ = some (.int .i64 lo0) := keepC hb_w6 (by go_simp)
  have l1_w6 : w6.cell? ⟨w4.heap.size, 1, none⟩ = some (.int .i64 lo1) := keepC hb_w6 (by go_simp)
  have lt4_w6 : w4.heap.size < w6.heap.size := World.block_lt_of_cell? _ _ l0_w6
  have hk_w6 : Below w5.heap.size w5 w6 := blw
  have XB_w6 := Lib.hid (fun o => (hk_w6.cell (p := ⟨w.heap.size, o, none⟩) (show w.heap.size < w5.heap.size by omega)).trans (XB_w5.out o))
  have OB_w6 := Lib.hid (fun o => (hk_w6.cell (p := ⟨w.heap.size + 1, o, none⟩) lt_w5).trans (OB_w5.out o))
  have OF_w6 := Lib.hid (fun o => (hk_w6.frozen (p := ⟨w.heap.size + 1, o, none⟩) lt_w5).trans (OF_w5.out o))
  have hv_w6 : Below w.heap.size w w6 := Below.trans hv_w5 (hk_w6.mono (by omega))
  have lt_w6 : w.heap.size + 1 < w6.heap.size := Nat.lt_of_lt_of_le lt_w5 hk_w6.size
  have ltb_w6 : w.heap.size < w6.heap.size := (by omega)
  have n_w6 : ¬ w.heap.size = w6.heap.size := (by omega)
  have m_w6 : ¬ w.heap.size + 1 = w6.heap.size := (by omega)
  have le_w6 := hk_w6.size
  clear XB_w5 OB_w5 OF_w5 hv_w5 hk_w6 n_w5 m_w5
  clear hb_w6 G3 l0_w5 l1_w5
  have n4_w6 : ¬ w4.heap.size = w6.heap.size := (by omega)
  repeat (first | (with_reducible refine wp_markr 10 ?_) | go_values | go_skip | go_guarded | go_step | go_upon | (simp only []; go_simp))
  refine wp_named (fun w7 hN_w7 => ?_)
  have q0_w7 : w7.cell? ⟨w6.heap.size, 0, none⟩ = some (.int .i64 x0) := by rw [hN_w7]; go_simp
  have q1_w7 : w7.cell? ⟨w6.heap.size, 1, none⟩ = some (.int .i64 x1) := by rw [hN_w7]; go_simp
  have l0_w7 : w7.cell? ⟨w4.heap.size, 0, none⟩ = some (.int .i64 lo0) := by rw [hN_w7]; go_simp
  have l1_w7 : w7.cell? ⟨w4.heap.size, 1, none⟩ = some (.int .i64 lo1) := by rw [hN_w7]; go_simp
  have lt6_w7 : w6.heap.size < w7.heap.size := World.block_lt_of_cell? _ _ q0_w7
  have hb_w7 : Below w6.heap.size w6 w7 := by rw [hN_w7]; exact blw
  have hk_w7 : Below w6.heap.size w6 w7 := blw
  have XB_w7 := Lib.hid (fun o => (hk_w7.cell (p := ⟨w.heap.size, o, none⟩) (show w.heap.size < w6.heap.size by omega)).trans (XB_w6.out o))
  have OB_w7 := Lib.hid (fun o => (hk_w7.cell (p := ⟨w.heap.size + 1, o, none⟩) lt_w6).trans (OB_w6.out o))
  have OF_w7 := Lib.hid (fun o => (hk_w7.frozen (p := ⟨w.heap.size + 1, o, none⟩) lt_w6).trans (OF_w6.out o))
  have hv_w7 : Below w.heap.size w w7 := Below.trans hv_w6 (hk_w7.mono (by omega))
  have lt_w7 : w.heap.size + 1 < w7.heap.size := Nat.lt_of_lt_of_le lt_w6 hk_w7.size
  have ltb_w7 : w.heap.size < w7.heap.size := (by omega)
  have n_w7 : ¬ w.heap.size = w7.heap.size := (by omega)
  have m_w7 : ¬ w.heap.size + 1 = w7.heap.size := (by omega)
  have le_w7 := hk_w7.size
  clear XB_w6 OB_w6 OF_w6 hv_w6 hk_w7 n_w6 m_w6
  clear hN_w7 hb_w7 l0_w6 l1_w6
  have n4_w7 : ¬ w4.heap.size = w7.heap.size := (by omega)
  have n6_w7 : ¬ w6.heap.size = w7.heap.size := (by omega)
  have x0_w7 : w7.cell? ⟨w.heap.size, 0, none⟩ = some (.int .i64 a0) := (XB_w7.out 0).trans rfl
  have x1_w7 : w7.cell? ⟨w.heap.size, 1, none⟩ = some (.int .i64 a1) := (XB_w7.out 1).trans rfl
  have x2_w7 : w7.cell? ⟨w.heap.size, 2, none⟩ = some (.int .i64 b0) := (XB_w7.out 2).trans rfl
  have x3_w7 : w7.cell? ⟨w.heap.size, 3, none⟩ = some (.int .i64 b1) := (XB_w7.out 3).trans rfl
  have x18_w7 : w7.cell? ⟨w.heap.size, 18, none⟩ = some (.int .i64 m0) := (XB_w7.out 18).trans rfl
  have x19_w7 : w7.cell? ⟨w.heap.size, 19, none⟩ = some (.int .i64 m1) := (XB_w7.out 19).trans rfl
  have x14_w7 : w7.cell? ⟨w.heap.size, 14, none⟩ = some (.int .i64 p0) := (XB_w7.out 14).trans rfl
  have x15_w7 : w7.cell? ⟨w.heap.size, 15, none⟩ = some (.int .i64 p1) := (XB_w7.out 15).trans rfl
  have q7a : ¬ w.heap.size = w7.heap.size + 1 := (by omega)
  have q7b : ¬ w4.heap.size = w7.heap.size + 1 := (by omega)
  have q7c : ¬ w6.heap.size = w7.heap.size + 1 := (by omega)
  have lt4_w7 : w4.heap.size < w7.heap.size := (by omega)
  refine wp_cutS (fun b9 b72 z => (((((((((((((((((((((((((((((((z.put (some 47) (.pointer (some ⟨w.heap.size, 0, none⟩))).put (some 48) (.pointer (some ⟨w.heap.size, 0, none⟩))).put (some 49) (.pointer (some ⟨w.heap.size, 0, none⟩))).put (some 50) (.int .i64 a0)).put (some 51) (.pointer (some ⟨w6.heap.size, 0, none⟩))).put (some 52) (.int .i64 x0)).put (some 53) (.int .i64 (a0 + x0))).put (some 54) (.pointer (some ⟨w.heap.size, 0, none⟩))).put (some 55) (.pointer (some ⟨w.heap.size, 0, none⟩))).put (some 56) (.pointer (some ⟨w.heap.size, 1, none⟩))).put (some 57) (.int .i64 a1)).put (some 58) (.pointer (some ⟨w6.heap.size, 1, none⟩))).put (some 59) (.int .i64 x1)).put (some 60) (.int .i64 (a1 + x1))).put (some 61) (.agg #[.int .i64 (a0 + x0), .int .i64 (a1 + x1)])).put (some 62) (.agg #[.int .i64 R0, .int .i64 R1])).put (some 63) (.func (.func 63) #[] #[.pointer (some ⟨w4.heap.size, 0, none⟩)])).put (some 64) (.pointer (some ⟨w.heap.size, 0, none⟩))).put (some 65) (.pointer (some ⟨w.heap.size, 2, none⟩))).put (some 66) (.agg #[.int .i64 b0, .int .i64 b1])).put (some 67) (.pointer (some ⟨w.heap.size, 18, none⟩))).put (some 68) (.agg #[.int .i64 m0, .int .i64 m1])).put (some 69) (.pointer (some ⟨w.heap.size, 12, none⟩))).put (some 70) (.pointer (some ⟨w.heap.size, 14, none⟩))).put (some 71) (.agg #[.int .i64 p0, .int .i64 p1])).put (some 72) (.slice (some ⟨b72, 0, none⟩) 2 2)).put (some 73) (.agg #[.int .i64 tt0, .int .i64 tt1])).put (some 74) (.agg #[.int .i64 y0, .int .i64 y1])).put (some 75) (.agg #[.int .i64 T0, .int .i64 T1])).put (some 76) (.agg #[.int .i64 R0, .int .i64 R1, .int .i64 T0, .int .i64 T1, .int .i64 0, .int .i64 0])).put (some 9) (.pointer (some ⟨b9, 0, none⟩)))) 9 72 (fun B w' => Below w7.heap.size w7 w' ∧ w7.heap.size ≤ B ∧ B < w'.heap.size ∧ w'.cell? ⟨B, 0, none⟩ = some (.int .i64 R0) ∧ w'.cell? ⟨B, 1, none⟩ = some (.int .i64 R1) ∧ w'.cell? ⟨B, 2, none⟩ = some (.int .i64 T0) ∧ w'.cell? ⟨B, 3, none⟩ = some (.int .i64 T1) ∧ w'.cell? ⟨B, 4, none⟩ = some (.int .i64 0) ∧ w'.cell? ⟨B, 5, none⟩ = some (.int .i64 0) ∧ ∀ o, w'.frozen? ⟨B, o, none⟩ = false) ?_ ?_
  · (try clear lt_w1); (try clear ltb_w1); (try clear le_w1); (try clear n_w1); (try clear m_w1); (try clear hv_w1); (try clear lt_w2); (try clear ltb_w2); (try clear le_w2); (try clear n_w2); (try clear m_w2); (try clear hv_w2); (try clear lt_w3); (try clear ltb_w3); (try clear le_w3); (try clear n_w3); (try clear m_w3); (try clear hv_w3); (try clear lt_w4); (try clear ltb_w4); (try clear le_w4); (try clear n_w4); (try clear m_w4); (try clear hv_w4); (try clear lt_w5); (try clear ltb_w5); (try clear le_w5); (try clear n_w5); (try clear m_w5); (try clear hv_w5); (try clear lt_w6); (try clear ltb_w6); (try clear le_w6); (try clear n_w6); (try clear m_w6); (try clear hv_w6); (try clear lt3_w4); (try clear n3_w4); (try clear lt4_w5); (try clear lt4_w6); (try clear n4_w6); (try clear RS); (try clear XB_w7); (try clear OB_w7); (try clear OF_w7); (try clear hv_w7); (try clear lt_w7); (try clear m_w7); (try clear n1)
    (go_region_held3 (fun w' => w'.cell? ⟨w.heap.size, 0, none⟩ = some (.int .i64 a0) ∧ w'.cell? ⟨w.heap.size, 1, none⟩ = some (.int .i64 a1) ∧ w'.cell? ⟨w.heap.size, 2, none⟩ = some (.int .i64 b0) ∧ w'.cell? ⟨w.heap.size, 3, none⟩ = some (.int .i64 b1) ∧ w'.cell? ⟨w.heap.size, 18, none⟩ = some (.int .i64 m0) ∧ w'.cell? ⟨w.heap.size, 19, none⟩ = some (.int .i64 m1) ∧ w'.cell? ⟨w.heap.size, 14, none⟩ = some (.int .i64 p0) ∧ w'.cell? ⟨w.heap.size, 15, none⟩ = some (.int .i64 p1) ∧ w'.cell? ⟨w6.heap.size, 0, none⟩ = some (.int .i64 x0) ∧ w'.cell? ⟨w6.heap.size, 1, none⟩ = some (.int .i64 x1) ∧ w'.cell? ⟨w4.heap.size, 0, none⟩ = some (.int .i64 lo0) ∧ w'.cell? ⟨w4.heap.size, 1, none⟩ = some (.int .i64 lo1)) ((first | exact ⟨by with_reducible assumption, by with_reducible assumption, by with_reducible assumption, by with_reducible assumption, by with_reducible assumption, by with_reducible assumption, by with_reducible assumption, by with_reducible assumption, by with_reducible assumption, by with_reducible assumption, by with_reducible assumption, by with_reducible assumption⟩ | go_simp | simp [*, go_sem]))
      (first
        | (go_at_call 42; (with_reducible refine (C1.out _).mono ?_); rintro e w8 ⟨rfl, hb_w8⟩; have hk_w8 : Below w7.heap.size w7 w8 := blw; have le_w8 := hk_w8.size; have f0_w8 : w8.cell? ⟨w.heap.size, 0, none⟩ = some (.int .i64 a0) := (hk_w8.cell (p := ⟨w.heap.size, 0, none⟩) ltb_w7).trans x0_w7; have f1_w8 : w8.cell? ⟨w.heap.size, 1, none⟩ = some (.int .i64 a1) := (hk_w8.cell (p := ⟨w.heap.size, 1, none⟩) ltb_w7).trans x1_w7; have f2_w8 : w8.cell? ⟨w.heap.size, 2, none⟩ = some (.int .i64 b0) := (hk_w8.cell (p := ⟨w.heap.size, 2, none⟩) ltb_w7).trans x2_w7; have f3_w8 : w8.cell? ⟨w.heap.size, 3, none⟩ = some (.int .i64 b1) := (hk_w8.cell (p := ⟨w.heap.size, 3, none⟩) ltb_w7).trans x3_w7; have f4_w8 : w8.cell? ⟨w.heap.size, 18, none⟩ = some (.int .i64 m0) := (hk_w8.cell (p := ⟨w.heap.size, 18, none⟩) ltb_w7).trans x18_w7; have f5_w8 : w8.cell? ⟨w.heap.size, 19, none⟩ = some (.int .i64 m1) := (hk_w8.cell (p := ⟨w.heap.size, 19, none⟩) ltb_w7).trans x19_w7; have f6_w8 : w8.cell? ⟨w.heap.size, 14, none⟩ = some (.int .i64 p0) := (hk_w8.cell (p := ⟨w.heap.size, 14, none⟩) ltb_w7).trans x14_w7; have f7_w8 : w8.cell? ⟨w.heap.size, 15, none⟩ = some (.int .i64 p1) := (hk_w8.cell (p := ⟨w.heap.size, 15, none⟩) ltb_w7).trans x15_w7; have f8_w8 : w8.cell? ⟨w6.heap.size, 0, none⟩ = some (.int .i64 x0) := (hk_w8.cell (p := ⟨w6.heap.size, 0, none⟩) lt6_w7).trans q0_w7; have f9_w8 : w8.cell? ⟨w6.heap.size, 1, none⟩ = some (.int .i64 x1) := (hk_w8.cell (p := ⟨w6.heap.size, 1, none⟩) lt6_w7).trans q1_w7; have f10_w8 : w8.cell? ⟨w4.heap.size, 0, none⟩ = some (.int .i64 lo0) := (hk_w8.cell (p := ⟨w4.heap.size, 0, none⟩) lt4_w7).trans l0_w7; have f11_w8 : w8.cell? ⟨w4.heap.size, 1, none⟩ = some (.int .i64 lo1) := (hk_w8.cell (p := ⟨w4.heap.size, 1, none⟩) lt4_w7).trans l1_w7; have l0_w8 : w.heap.size < w8.heap.size := Nat.lt_of_lt_of_le ltb_w7 hk_w8.size; have k0_w8 : w.heap.size < w8.heap.size + 1 := Nat.lt_succ_of_lt l0_w8; have u0_w8 : ¬ w.heap.size = w8.heap.size := Nat.ne_of_lt l0_w8; have v0_w8 : ¬ w.heap.size = w8.heap.size + 1 := Nat.ne_of_lt k0_w8; have l1_w8 : w6.heap.size < w8.heap.size := Nat.lt_of_lt_of_le lt6_w7 hk_w8.size; have k1_w8 : w6.heap.size < w8.heap.size + 1 := Nat.lt_succ_of_lt l1_w8; have u1_w8 : ¬ w6.heap.size = w8.heap.size := Nat.ne_of_lt l1_w8; have v1_w8 : ¬ w6.heap.size = w8.heap.size + 1 := Nat.ne_of_lt k1_w8; have l2_w8 : w4.heap.size < w8.heap.size := Nat.lt_of_lt_of_le lt4_w7 hk_w8.size; have k2_w8 : w4.heap.size < w8.heap.size + 1 := Nat.lt_succ_of_lt l2_w8; have u2_w8 : ¬ w4.heap.size = w8.heap.size := Nat.ne_of_lt l2_w8; have v2_w8 : ¬ w4.heap.size = w8.heap.size + 1 := Nat.ne_of_lt k2_w8; (try (refine hv9 (blx hb_w8 rfl (w7.heap.size) ?_) (fun hq => ?_); (focus (first | (simp; done) | (simp; omega))); obtain ⟨z0_w8, -, -, c0_w8, g0_w8⟩ := hq; have y0_w8 := Nat.lt_succ_of_lt z0_w8; have d0_w8 := Nat.lt_succ_of_lt y0_w8; have o0_w8 : ¬ w7.heap.size = w8.heap.size := Nat.ne_of_lt z0_w8; have j0_w8 : ¬ w7.heap.size = w8.heap.size + 1 := Nat.ne_of_lt y0_w8; have i0_w8 : ¬ w8.heap.size = w7.heap.size := Nat.ne_of_gt z0_w8; have e0_w8 : ¬ w8.heap.size + 1 = w7.heap.size := Nat.ne_of_gt y0_w8)); (try (refine hv9 (blx hb_w8 rfl (w7.heap.size + 1) ?_) (fun hq => ?_); (focus (first | (simp; done) | (simp; omega))); obtain ⟨z1_w8, -, -, c1_w8, g1_w8⟩ := hq; have y1_w8 := Nat.lt_succ_of_lt z1_w8; have d1_w8 := Nat.lt_succ_of_lt y1_w8; have o1_w8 : ¬ w7.heap.size + 1 = w8.heap.size := Nat.ne_of_lt z1_w8; have j1_w8 : ¬ w7.heap.size + 1 = w8.heap.size + 1 := Nat.ne_of_lt y1_w8; have i1_w8 : ¬ w8.heap.size = w7.heap.size + 1 := Nat.ne_of_gt z1_w8; have e1_w8 : ¬ w8.heap.size + 1 = w7.heap.size + 1 := Nat.ne_of_gt y1_w8)))
        | (go_at_call 62; refine (P4.out _ _ _ lto (by go_simp) (by go_simp) (by go_simp) (by go_simp)).mono ?_; rintro e w9 ⟨rfl, hb_w9⟩; have hp_w9 : Below w8.heap.size w8 w9 := blw; have hk_w9 : Below w7.heap.size w7 w9 := bl_call hk_w8 hp_w9; have le_w9 := hk_w9.size; have f0_w9 : w9.cell? ⟨w.heap.size, 0, none⟩ = some (.int .i64 a0) := (hk_w9.cell (p := ⟨w.heap.size, 0, none⟩) ltb_w7).trans x0_w7; have f1_w9 : w9.cell? ⟨w.heap.size, 1, none⟩ = some (.int .i64 a1) := (hk_w9.cell (p := ⟨w.heap.size, 1, none⟩) ltb_w7).trans x1_w7; have f2_w9 : w9.cell? ⟨w.heap.size, 2, none⟩ = some (.int .i64 b0) := (hk_w9.cell (p := ⟨w.heap.size, 2, none⟩) ltb_w7).trans x2_w7; have f3_w9 : w9.cell? ⟨w.heap.size, 3, none⟩ = some (.int .i64 b1) := (hk_w9.cell (p := ⟨w.heap.size, 3, none⟩) ltb_w7).trans x3_w7; have f4_w9 : w9.cell? ⟨w.heap.size, 18, none⟩ = some (.int .i64 m0) := (hk_w9.cell (p := ⟨w.heap.size, 18, none⟩) ltb_w7).trans x18_w7; have f5_w9 : w9.cell? ⟨w.heap.size, 19, none⟩ = some (.int .i64 m1) := (hk_w9.cell (p := ⟨w.heap.size, 19, none⟩) ltb_w7).trans x19_w7; have f6_w9 : w9.cell? ⟨w.heap.size, 14, none⟩ = some (.int .i64 p0) := (hk_w9.cell (p := ⟨w.heap.size, 14, none⟩) ltb_w7).trans x14_w7; have f7_w9 : w9.cell? ⟨w.heap.size, 15, none⟩ = some (.int .i64 p1) := (hk_w9.cell (p := ⟨w.heap.size, 15, none⟩) ltb_w7).trans x15_w7; have f8_w9 : w9.cell? ⟨w6.heap.size, 0, none⟩ = some (.int .i64 x0) := (hk_w9.cell (p := ⟨w6.heap.size, 0, none⟩) lt6_w7).trans q0_w7; have f9_w9 : w9.cell? ⟨w6.heap.size, 1, none⟩ = some (.int .i64 x1) := (hk_w9.cell (p := ⟨w6.heap.size, 1, none⟩) lt6_w7).trans q1_w7; have f10_w9 : w9.cell? ⟨w4.heap.size, 0, none⟩ = some (.int .i64 lo0) := (hk_w9.cell (p := ⟨w4.heap.size, 0, none⟩) lt4_w7).trans l0_w7; have f11_w9 : w9.cell? ⟨w4.heap.size, 1, none⟩ = some (.int .i64 lo1) := (hk_w9.cell (p := ⟨w4.heap.size, 1, none⟩) lt4_w7).trans l1_w7; have l0_w9 : w.heap.size < w9.heap.size := Nat.lt_of_lt_of_le ltb_w7 hk_w9.size; have k0_w9 : w.heap.size < w9.heap.size + 1 := Nat.lt_succ_of_lt l0_w9; have u0_w9 : ¬ w.heap.size = w9.heap.size := Nat.ne_of_lt l0_w9; have v0_w9 : ¬ w.heap.size = w9.heap.size + 1 := Nat.ne_of_lt k0_w9; have l1_w9 : w6.heap.size < w9.heap.size := Nat.lt_of_lt_of_le lt6_w7 hk_w9.size; have k1_w9 : w6.heap.size < w9.heap.size + 1 := Nat.lt_succ_of_lt l1_w9; have u1_w9 : ¬ w6.heap.size = w9.heap.size := Nat.ne_of_lt l1_w9; have v1_w9 : ¬ w6.heap.size = w9.heap.size + 1 := Nat.ne_of_lt k1_w9; have l2_w9 : w4.heap.size < w9.heap.size := Nat.lt_of_lt_of_le lt4_w7 hk_w9.size; have k2_w9 : w4.heap.size < w9.heap.size + 1 := Nat.lt_succ_of_lt l2_w9; have u2_w9 : ¬ w4.heap.size = w9.heap.size := Nat.ne_of_lt l2_w9; have v2_w9 : ¬ w4.heap.size = w9.heap.size + 1 := Nat.ne_of_lt k2_w9; (try clear f0_w8); (try clear f1_w8); (try clear f2_w8); (try clear f3_w8); (try clear f4_w8); (try clear f5_w8); (try clear f6_w8); (try clear f7_w8); (try clear f8_w8); (try clear f9_w8); (try clear f10_w8); (try clear f11_w8); (try (have z0_w9 : w7.heap.size < w9.heap.size := Nat.lt_of_lt_of_le z0_w8 hp_w9.size; have c0_w9 := fun o => hp_w9.cell (p := ⟨w7.heap.size, o, none⟩) z0_w8; have g0_w9 := fun o => hp_w9.frozen (p := ⟨w7.heap.size, o, none⟩) z0_w8; have y0_w9 := Nat.lt_succ_of_lt z0_w9; have d0_w9 := Nat.lt_succ_of_lt y0_w9; have o0_w9 : ¬ w7.heap.size = w9.heap.size := Nat.ne_of_lt z0_w9; have j0_w9 : ¬ w7.heap.size = w9.heap.size + 1 := Nat.ne_of_lt y0_w9; have i0_w9 : ¬ w9.heap.size = w7.heap.size := Nat.ne_of_gt z0_w9; have e0_w9 : ¬ w9.heap.size + 1 = w7.heap.size := Nat.ne_of_gt y0_w9)); (try (have z1_w9 : w7.heap.size + 1 < w9.heap.size := Nat.lt_of_lt_of_le z1_w8 hp_w9.size; have c1_w9 := fun o => hp_w9.cell (p := ⟨w7.heap.size + 1, o, none⟩) z1_w8; have g1_w9 := fun o => hp_w9.frozen (p := ⟨w7.heap.size + 1, o, none⟩) z1_w8; have y1_w9 := Nat.lt_succ_of_lt z1_w9; have d1_w9 := Nat.lt_succ_of_lt y1_w9; have o1_w9 : ¬ w7.heap.size + 1 = w9.heap.size := Nat.ne_of_lt z1_w9; have j1_w9 : ¬ w7.heap.size + 1 = w9.heap.size + 1 := Nat.ne_of_lt y1_w9; have i1_w9 : ¬ w9.heap.size = w7.heap.size + 1 := Nat.ne_of_gt z1_w9; have e1_w9 : ¬ w9.heap.size + 1 = w7.heap.size + 1 := Nat.ne_of_gt y1_w9)); (try (refine hv9 (blx hb_w9 rfl (w8.heap.size) ?_) (fun hq => ?_); (focus (first | (simp; done) | (simp; omega))); obtain ⟨z2_w9, -, -, c2_w9, g2_w9⟩ := hq; have y2_w9 := Nat.lt_succ_of_lt z2_w9; have d2_w9 := Nat.lt_succ_of_lt y2_w9; have o2_w9 : ¬ w8.heap.size = w9.heap.size := Nat.ne_of_lt z2_w9; have j2_w9 : ¬ w8.heap.size = w9.heap.size + 1 := Nat.ne_of_lt y2_w9; have i2_w9 : ¬ w9.heap.size = w8.heap.size := Nat.ne_of_gt z2_w9; have e2_w9 : ¬ w9.heap.size + 1 = w8.heap.size := Nat.ne_of_gt y2_w9)); (try (refine hv9 (blx hb_w9 rfl (w8.heap.size + 1) ?_) (fun hq => ?_); (focus (first | (simp; done) | (simp; omega))); obtain ⟨z3_w9, -, -, c3_w9, g3_w9⟩ := hq; have y3_w9 := Nat.lt_succ_of_lt z3_w9; have d3_w9 := Nat.lt_succ_of_lt y3_w9; have o3_w9 : ¬ w8.heap.size + 1 = w9.heap.size := Nat.ne_of_lt z3_w9; have j3_w9 : ¬ w8.heap.size + 1 = w9.heap.size + 1 := Nat.ne_of_lt y3_w9; have i3_w9 : ¬ w9.heap.size = w8.heap.size + 1 := Nat.ne_of_gt z3_w9; have e3_w9 : ¬ w9.heap.size + 1 = w8.heap.size + 1 := Nat.ne_of_gt y3_w9)))
        | (go_at_call 63; refine (G4.out _ _ lto (by go_simp) (by go_simp)).mono ?_; rintro e w10 ⟨rfl, hb_w10⟩; have hp_w10 : Below w9.heap.size w9 w10 := blw; have hk_w10 : Below w7.heap.size w7 w10 := bl_call hk_w9 hp_w10; have le_w10 := hk_w10.size; have f0_w10 : w10.cell? ⟨w.heap.size, 0, none⟩ = some (.int .i64 a0) := (hk_w10.cell (p := ⟨w.heap.size, 0, none⟩) ltb_w7).trans x0_w7; have f1_w10 : w10.cell? ⟨w.heap.size, 1, none⟩ = some (.int .i64 a1) := (hk_w10.cell (p := ⟨w.heap.size, 1, none⟩) ltb_w7).trans x1_w7; have f2_w10 : w10.cell? ⟨w.heap.size, 2, none⟩ = some (.int .i64 b0) := (hk_w10.cell (p := ⟨w.heap.size, 2, none⟩) ltb_w7).trans x2_w7; have f3_w10 : w10.cell? ⟨w.heap.size, 3, none⟩ = some (.int .i64 b1) := (hk_w10.cell (p := ⟨w.heap.size, 3, none⟩) ltb_w7).trans x3_w7; have f4_w10 : w10.cell? ⟨w.heap.size, 18, none⟩ = some (.int .i64 m0) := (hk_w10.cell (p := ⟨w.heap.size, 18, none⟩) ltb_w7).trans x18_w7; have f5_w10 : w10.cell? ⟨w.heap.size, 19, none⟩ = some (.int .i64 m1) := (hk_w10.cell (p := ⟨w.heap.size, 19, none⟩) ltb_w7).trans x19_w7; have f6_w10 : w10.cell? ⟨w.heap.size, 14, none⟩ = some (.int .i64 p0) := (hk_w10.cell (p := ⟨w.heap.size, 14, none⟩) ltb_w7).trans x14_w7; have f7_w10 : w10.cell? ⟨w.heap.size, 15, none⟩ = some (.int .i64 p1) := (hk_w10.cell (p := ⟨w.heap.size, 15, none⟩) ltb_w7).trans x15_w7; have f8_w10 : w10.cell? ⟨w6.heap.size, 0, none⟩ = some (.int .i64 x0) := (hk_w10.cell (p := ⟨w6.heap.size, 0, none⟩) lt6_w7).trans q0_w7; have f9_w10 : w10.cell? ⟨w6.heap.size, 1, none⟩ = some (.int .i64 x1) := (hk_w10.cell (p := ⟨w6.heap.size, 1, none⟩) lt6_w7).trans q1_w7; have f10_w10 : w10.cell? ⟨w4.heap.size, 0, none⟩ = some (.int .i64 lo0) := (hk_w10.cell (p := ⟨w4.heap.size, 0, none⟩) lt4_w7).trans l0_w7; have f11_w10 : w10.cell? ⟨w4.heap.size, 1, none⟩ = some (.int .i64 lo1) := (hk_w10.cell (p := ⟨w4.heap.size, 1, none⟩) lt4_w7).trans l1_w7; have l0_w10 : w.heap.size < w10.heap.size := Nat.lt_of_lt_of_le ltb_w7 hk_w10.size; have k0_w10 : w.heap.size < w10.heap.size + 1 := Nat.lt_succ_of_lt l0_w10; have u0_w10 : ¬ w.heap.size = w10.heap.size := Nat.ne_of_lt l0_w10; have v0_w10 : ¬ w.heap.size = w10.heap.size + 1 := Nat.ne_of_lt k0_w10; have l1_w10 : w6.heap.size < w10.heap.size := Nat.lt_of_lt_of_le lt6_w7 hk_w10.size; have k1_w10 : w6.heap.size < w10.heap.size + 1 := Nat.lt_succ_of_lt l1_w10; have u1_w10 : ¬ w6.heap.size = w10.heap.size := Nat.ne_of_lt l1_w10; have v1_w10 : ¬ w6.heap.size = w10.heap.size + 1 := Nat.ne_of_lt k1_w10; have l2_w10 : w4.heap.size < w10.heap.size := Nat.lt_of_lt_of_le lt4_w7 hk_w10.size; have k2_w10 : w4.heap.size < w10.heap.size + 1 := Nat.lt_succ_of_lt l2_w10; have u2_w10 : ¬ w4.heap.size = w10.heap.size := Nat.ne_of_lt l2_w10; have v2_w10 : ¬ w4.heap.size = w10.heap.size + 1 := Nat.ne_of_lt k2_w10; (try clear f0_w9); (try clear f1_w9); (try clear f2_w9); (try clear f3_w9); (try clear f4_w9); (try clear f5_w9); (try clear f6_w9); (try clear f7_w9); (try clear f8_w9); (try clear f9_w9); (try clear f10_w9); (try clear f11_w9); (try (have z0_w10 : w7.heap.size < w10.heap.size := Nat.lt_of_lt_of_le z0_w9 hp_w10.size; have c0_w10 := fun o => hp_w10.cell (p := ⟨w7.heap.size, o, none⟩) z0_w9; have g0_w10 := fun o => hp_w10.frozen (p := ⟨w7.heap.size, o, none⟩) z0_w9; have y0_w10 := Nat.lt_succ_of_lt z0_w10; have d0_w10 := Nat.lt_succ_of_lt y0_w10; have o0_w10 : ¬ w7.heap.size = w10.heap.size := Nat.ne_of_lt z0_w10; have j0_w10 : ¬ w7.heap.size = w10.heap.size + 1 := Nat.ne_of_lt y0_w10; have i0_w10 : ¬ w10.heap.size = w7.heap.size := Nat.ne_of_gt z0_w10; have e0_w10 : ¬ w10.heap.size + 1 = w7.heap.size := Nat.ne_of_gt y0_w10)); (try (have z1_w10 : w7.heap.size + 1 < w10.heap.size := Nat.lt_of_lt_of_le z1_w9 hp_w10.size; have c1_w10 := fun o => hp_w10.cell (p := ⟨w7.heap.size + 1, o, none⟩) z1_w9; have g1_w10 := fun o => hp_w10.frozen (p := ⟨w7.heap.size + 1, o, none⟩) z1_w9; have y1_w10 := Nat.lt_succ_of_lt z1_w10; have d1_w10 := Nat.lt_succ_of_lt y1_w10; have o1_w10 : ¬ w7.heap.size + 1 = w10.heap.size := Nat.ne_of_lt z1_w10; have j1_w10 : ¬ w7.heap.size + 1 = w10.heap.size + 1 := Nat.ne_of_lt y1_w10; have i1_w10 : ¬ w10.heap.size = w7.heap.size + 1 := Nat.ne_of_gt z1_w10; have e1_w10 : ¬ w10.heap.size + 1 = w7.heap.size + 1 := Nat.ne_of_gt y1_w10)); (try (have z2_w10 : w8.heap.size < w10.heap.size := Nat.lt_of_lt_of_le z2_w9 hp_w10.size; have c2_w10 := fun o => hp_w10.cell (p := ⟨w8.heap.size, o, none⟩) z2_w9; have g2_w10 := fun o => hp_w10.frozen (p := ⟨w8.heap.size, o, none⟩) z2_w9; have y2_w10 := Nat.lt_succ_of_lt z2_w10; have d2_w10 := Nat.lt_succ_of_lt y2_w10; have o2_w10 : ¬ w8.heap.size = w10.heap.size := Nat.ne_of_lt z2_w10; have j2_w10 : ¬ w8.heap.size = w10.heap.size + 1 := Nat.ne_of_lt y2_w10; have i2_w10 : ¬ w10.heap.size = w8.heap.size := Nat.ne_of_gt z2_w10; have e2_w10 : ¬ w10.heap.size + 1 = w8.heap.size := Nat.ne_of_gt y2_w10)); (try (have z3_w10 : w8.heap.size + 1 < w10.heap.size := Nat.lt_of_lt_of_le z3_w9 hp_w10.size; have c3_w10 := fun o => hp_w10.cell (p := ⟨w8.heap.size + 1, o, none⟩) z3_w9; have g3_w10 := fun o => hp_w10.frozen (p := ⟨w8.heap.size + 1, o, none⟩) z3_w9; have y3_w10 := Nat.lt_succ_of_lt z3_w10; have d3_w10 := Nat.lt_succ_of_lt y3_w10; have o3_w10 : ¬ w8.heap.size + 1 = w10.heap.size := Nat.ne_of_lt z3_w10; have j3_w10 : ¬ w8.heap.size + 1 = w10.heap.size + 1 := Nat.ne_of_lt y3_w10; have i3_w10 : ¬ w10.heap.size = w8.heap.size + 1 := Nat.ne_of_gt z3_w10; have e3_w10 : ¬ w10.heap.size + 1 = w8.heap.size + 1 := Nat.ne_of_gt y3_w10)); (try (refine hv9 (blx hb_w10 rfl (w9.heap.size) ?_) (fun hq => ?_); (focus (first | (simp; done) | (simp; omega))); obtain ⟨z4_w10, -, -, c4_w10, g4_w10⟩ := hq; have y4_w10 := Nat.lt_succ_of_lt z4_w10; have d4_w10 := Nat.lt_succ_of_lt y4_w10; have o4_w10 : ¬ w9.heap.size = w10.heap.size := Nat.ne_of_lt z4_w10; have j4_w10 : ¬ w9.heap.size = w10.heap.size + 1 := Nat.ne_of_lt y4_w10; have i4_w10 : ¬ w10.heap.size = w9.heap.size := Nat.ne_of_gt z4_w10; have e4_w10 : ¬ w10.heap.size + 1 = w9.heap.size := Nat.ne_of_gt y4_w10)); (try (refine hv9 (blx hb_w10 rfl (w9.heap.size + 1) ?_) (fun hq => ?_); (focus (first | (simp; done) | (simp; omega))); obtain ⟨z5_w10, -, -, c5_w10, g5_w10⟩ := hq; have y5_w10 := Nat.lt_succ_of_lt z5_w10; have d5_w10 := Nat.lt_succ_of_lt y5_w10; have o5_w10 : ¬ w9.heap.size + 1 = w10.heap.size := Nat.ne_of_lt z5_w10; have j5_w10 : ¬ w9.heap.size + 1 = w10.heap.size + 1 := Nat.ne_of_lt y5_w10; have i5_w10 : ¬ w10.heap.size = w9.heap.size + 1 := Nat.ne_of_gt z5_w10; have e5_w10 : ¬ w10.heap.size + 1 = w9.heap.size + 1 := Nat.ne_of_gt y5_w10)))
        | (go_at_call 42; (with_reducible refine (C2.out _).mono ?_); rintro e w11 ⟨rfl, hb_w11⟩; have hp_w11 : Below w10.heap.size w10 w11 := blw; have hk_w11 : Below w7.heap.size w7 w11 := bl_call hk_w10 hp_w11; have le_w11 := hk_w11.size; have f0_w11 : w11.cell? ⟨w.heap.size, 0, none⟩ = some (.int .i64 a0) := (hk_w11.cell (p := ⟨w.heap.size, 0, none⟩) ltb_w7).trans x0_w7; have f1_w11 : w11.cell? ⟨w.heap.size, 1, none⟩ = some (.int .i64 a1) := (hk_w11.cell (p := ⟨w.heap.size, 1, none⟩) ltb_w7).trans x1_w7; have f2_w11 : w11.cell? ⟨w.heap.size, 2, none⟩ = some (.int .i64 b0) := (hk_w11.cell (p := ⟨w.heap.size, 2, none⟩) ltb_w7).trans x2_w7; have f3_w11 : w11.cell? ⟨w.heap.size, 3, none⟩ = some (.int .i64 b1) := (hk_w11.cell (p := ⟨w.heap.size, 3, none⟩) ltb_w7).trans x3_w7; have f4_w11 : w11.cell? ⟨w.heap.size, 18, none⟩ = some (.int .i64 m0) := (hk_w11.cell (p := ⟨w.heap.size, 18, none⟩) ltb_w7).trans x18_w7; have f5_w11 : w11.cell? ⟨w.heap.size, 19, none⟩ = some (.int .i64 m1) := (hk_w11.cell (p := ⟨w.heap.size, 19, none⟩) ltb_w7).trans x19_w7; have f6_w11 : w11.cell? ⟨w.heap.size, 14, none⟩ = some (.int .i64 p0) := (hk_w11.cell (p := ⟨w.heap.size, 14, none⟩) ltb_w7).trans x14_w7; have f7_w11 : w11.cell? ⟨w.heap.size, 15, none⟩ = some (.int .i64 p1) := (hk_w11.cell (p := ⟨w.heap.size, 15, none⟩) ltb_w7).trans x15_w7; have f8_w11 : w11.cell? ⟨w6.heap.size, 0, none⟩ = some (.int .i64 x0) := (hk_w11.cell (p := ⟨w6.heap.size, 0, none⟩) lt6_w7).trans q0_w7; have f9_w11 : w11.cell? ⟨w6.heap.size, 1, none⟩ = some (.int .i64 x1) := (hk_w11.cell (p := ⟨w6.heap.size, 1, none⟩) lt6_w7).trans q1_w7; have f10_w11 : w11.cell? ⟨w4.heap.size, 0, none⟩ = some (.int .i64 lo0) := (hk_w11.cell (p := ⟨w4.heap.size, 0, none⟩) lt4_w7).trans l0_w7; have f11_w11 : w11.cell? ⟨w4.heap.size, 1, none⟩ = some (.int .i64 lo1) := (hk_w11.cell (p := ⟨w4.heap.size, 1, none⟩) lt4_w7).trans l1_w7; have l0_w11 : w.heap.size < w11.heap.size := Nat.lt_of_lt_of_le ltb_w7 hk_w11.size; have k0_w11 : w.heap.size < w11.heap.size + 1 := Nat.lt_succ_of_lt l0_w11; have u0_w11 : ¬ w.heap.size = w11.heap.size := Nat.ne_of_lt l0_w11; have v0_w11 : ¬ w.heap.size = w11.heap.size + 1 := Nat.ne_of_lt k0_w11; have l1_w11 : w6.heap.size < w11.heap.size := Nat.lt_of_lt_of_le lt6_w7 hk_w11.size; have k1_w11 : w6.heap.size < w11.heap.size + 1 := Nat.lt_succ_of_lt l1_w11; have u1_w11 : ¬ w6.heap.size = w11.heap.size := Nat.ne_of_lt l1_w11; have v1_w11 : ¬ w6.heap.size = w11.heap.size + 1 := Nat.ne_of_lt k1_w11; have l2_w11 : w4.heap.size < w11.heap.size := Nat.lt_of_lt_of_le lt4_w7 hk_w11.size; have k2_w11 : w4.heap.size < w11.heap.size + 1 := Nat.lt_succ_of_lt l2_w11; have u2_w11 : ¬ w4.heap.size = w11.heap.size := Nat.ne_of_lt l2_w11; have v2_w11 : ¬ w4.heap.size = w11.heap.size + 1 := Nat.ne_of_lt k2_w11; (try clear f0_w10); (try clear f1_w10); (try clear f2_w10); (try clear f3_w10); (try clear f4_w10); (try clear f5_w10); (try clear f6_w10); (try clear f7_w10); (try clear f8_w10); (try clear f9_w10); (try clear f10_w10); (try clear f11_w10); (try (have z0_w11 : w7.heap.size < w11.heap.size := Nat.lt_of_lt_of_le z0_w10 hp_w11.size; have c0_w11 := fun o => hp_w11.cell (p := ⟨w7.heap.size, o, none⟩) z0_w10; have g0_w11 := fun o => hp_w11.frozen (p := ⟨w7.heap.size, o, none⟩) z0_w10; have y0_w11 := Nat.lt_succ_of_lt z0_w11; have d0_w11 := Nat.lt_succ_of_lt y0_w11; have o0_w11 : ¬ w7.heap.size = w11.heap.size := Nat.ne_of_lt z0_w11; have j0_w11 : ¬ w7.heap.size = w11.heap.size + 1 := Nat.ne_of_lt y0_w11; have i0_w11 : ¬ w11.heap.size = w7.heap.size := Nat.ne_of_gt z0_w11; have e0_w11 : ¬ w11.heap.size + 1 = w7.heap.size := Nat.ne_of_gt y0_w11)); (try (have z1_w11 : w7.heap.size + 1 < w11.heap.size := Nat.lt_of_lt_of_le z1_w10 hp_w11.size; have c1_w11 := fun o => hp_w11.cell (p := ⟨w7.heap.size + 1, o, none⟩) z1_w10; have g1_w11 := fun o => hp_w11.frozen (p := ⟨w7.heap.size + 1, o, none⟩) z1_w10; have y1_w11 := Nat.lt_succ_of_lt z1_w11; have d1_w11 := Nat.lt_succ_of_lt y1_w11; have o1_w11 : ¬ w7.heap.size + 1 = w11.heap.size := Nat.ne_of_lt z1_w11; have j1_w11 : ¬ w7.heap.size + 1 = w11.heap.size + 1 := Nat.ne_of_lt y1_w11; have i1_w11 : ¬ w11.heap.size = w7.heap.size + 1 := Nat.ne_of_gt z1_w11; have e1_w11 : ¬ w11.heap.size + 1 = w7.heap.size + 1 := Nat.ne_of_gt y1_w11)); (try (have z2_w11 : w8.heap.size < w11.heap.size := Nat.lt_of_lt_of_le z2_w10 hp_w11.size; have c2_w11 := fun o => hp_w11.cell (p := ⟨w8.heap.size, o, none⟩) z2_w10; have g2_w11 := fun o => hp_w11.frozen (p := ⟨w8.heap.size, o, none⟩) z2_w10; have y2_w11 := Nat.lt_succ_of_lt z2_w11; have d2_w11 := Nat.lt_succ_of_lt y2_w11; have o2_w11 : ¬ w8.heap.size = w11.heap.size := Nat.ne_of_lt z2_w11; have j2_w11 : ¬ w8.heap.size = w11.heap.size + 1 := Nat.ne_of_lt y2_w11; have i2_w11 : ¬ w11.heap.size = w8.heap.size := Nat.ne_of_gt z2_w11; have e2_w11 : ¬ w11.heap.size + 1 = w8.heap.size := Nat.ne_of_gt y2_w11)); (try (have z3_w11 : w8.heap.size + 1 < w11.heap.size := Nat.lt_of_lt_of_le z3_w10 hp_w11.size; have c3_w11 := fun o => hp_w11.cell (p := ⟨w8.heap.size + 1, o, none⟩) z3_w10; have g3_w11 := fun o => hp_w11.frozen (p := ⟨w8.heap.size + 1, o, none⟩) z3_w10; have y3_w11 := Nat.lt_succ_of_lt z3_w11; have d3_w11 := Nat.lt_succ_of_lt y3_w11; have o3_w11 : ¬ w8.heap.size + 1 = w11.heap.size := Nat.ne_of_lt z3_w11; have j3_w11 : ¬ w8.heap.size + 1 = w11.heap.size + 1 := Nat.ne_of_lt y3_w11; have i3_w11 : ¬ w11.heap.size = w8.heap.size + 1 := Nat.ne_of_gt z3_w11; have e3_w11 : ¬ w11.heap.size + 1 = w8.heap.size + 1 := Nat.ne_of_gt y3_w11)); (try (have z4_w11 : w9.heap.size < w11.heap.size := Nat.lt_of_lt_of_le z4_w10 hp_w11.size; have c4_w11 := fun o => hp_w11.cell (p := ⟨w9.heap.size, o, none⟩) z4_w10; have g4_w11 := fun o => hp_w11.frozen (p := ⟨w9.heap.size, o, none⟩) z4_w10; have y4_w11 := Nat.lt_succ_of_lt z4_w11; have d4_w11 := Nat.lt_succ_of_lt y4_w11; have o4_w11 : ¬ w9.heap.size = w11.heap.size := Nat.ne_of_lt z4_w11; have j4_w11 : ¬ w9.heap.size = w11.heap.size + 1 := Nat.ne_of_lt y4_w11; have i4_w11 : ¬ w11.heap.size = w9.heap.size := Nat.ne_of_gt z4_w11; have e4_w11 : ¬ w11.heap.size + 1 = w9.heap.size := Nat.ne_of_gt y4_w11)); (try (have z5_w11 : w9.heap.size + 1 < w11.heap.size := Nat.lt_of_lt_of_le z5_w10 hp_w11.size; have c5_w11 := fun o => hp_w11.cell (p := ⟨w9.heap.size + 1, o, none⟩) z5_w10; have g5_w11 := fun o => hp_w11.frozen (p := ⟨w9.heap.size + 1, o, none⟩) z5_w10; have y5_w11 := Nat.lt_succ_of_lt z5_w11; have d5_w11 := Nat.lt_succ_of_lt y5_w11; have o5_w11 : ¬ w9.heap.size + 1 = w11.heap.size := Nat.ne_of_lt z5_w11; have j5_w11 : ¬ w9.heap.size + 1 = w11.heap.size + 1 := Nat.ne_of_lt y5_w11; have i5_w11 : ¬ w11.heap.size = w9.heap.size + 1 := Nat.ne_of_gt z5_w11; have e5_w11 : ¬ w11.heap.size + 1 = w9.heap.size + 1 := Nat.ne_of_gt y5_w11)); (try (refine hv9 (blx hb_w11 rfl (w10.heap.size) ?_) (fun hq => ?_); (focus (first | (simp; done) | (simp; omega))); obtain ⟨z6_w11, -, -, c6_w11, g6_w11⟩ := hq; have y6_w11 := Nat.lt_succ_of_lt z6_w11; have d6_w11 := Nat.lt_succ_of_lt y6_w11; have o6_w11 : ¬ w10.heap.size = w11.heap.size := Nat.ne_of_lt z6_w11; have j6_w11 : ¬ w10.heap.size = w11.heap.size + 1 := Nat.ne_of_lt y6_w11; have i6_w11 : ¬ w11.heap.size = w10.heap.size := Nat.ne_of_gt z6_w11; have e6_w11 : ¬ w11.heap.size + 1 = w10.heap.size := Nat.ne_of_gt y6_w11)); (try (refine hv9 (blx hb_w11 rfl (w10.heap.size + 1) ?_) (fun hq => ?_); (focus (first | (simp; done) | (simp; omega))); obtain ⟨z7_w11, -, -, c7_w11, g7_w11⟩ := hq; have y7_w11 := Nat.lt_succ_of_lt z7_w11; have d7_w11 := Nat.lt_succ_of_lt y7_w11; have o7_w11 : ¬ w10.heap.size + 1 = w11.heap.size := Nat.ne_of_lt z7_w11; have j7_w11 : ¬ w10.heap.size + 1 = w11.heap.size + 1 := Nat.ne_of_lt y7_w11; have i7_w11 : ¬ w11.heap.size = w10.heap.size + 1 := Nat.ne_of_gt z7_w11; have e7_w11 : ¬ w11.heap.size + 1 = w10.heap.size + 1 := Nat.ne_of_gt y7_w11)))
      ))
    all_goals
      refine ⟨rfl, fun b0 b1 h0 h1 => ?_⟩
      subst h0; subst h1
      clear C1 C2 P4 G4 RS
      exact ⟨by (simp only [sBlk]; go_simp), (by repeat' (first | exact hk_w11 | (with_reducible refine bl_setCell ?_ ?_ _) | (with_reducible refine bl_alloc ?_ _) | exact Nat.le_refl _ | exact Nat.le_succ _ | exact le_w8 | exact le_w9 | exact le_w10 | exact le_w11 | exact Nat.le_succ_of_le le_w8 | exact Nat.le_succ_of_le le_w9 | exact Nat.le_succ_of_le le_w10 | exact Nat.le_succ_of_le le_w11 | (simp; done) | omega | (simp; omega))), by first | (simp only [sBlk]; first | exact Nat.le_refl _ | exact Nat.le_succ _ | exact le_w8 | exact le_w9 | exact le_w10 | exact le_w11 | exact Nat.le_succ_of_le le_w8 | exact Nat.le_succ_of_le le_w9 | exact Nat.le_succ_of_le le_w10 | exact Nat.le_succ_of_le le_w11) | (simp only [sBlk]; go_simp; done) | (simp only [sBlk]; omega) | (simp only [sBlk]; go_simp; omega), by first | (simp only [sBlk]; go_simp; done) | (simp only [sBlk]; omega) | (simp only [sBlk]; go_simp; done) | (simp only [sBlk]; go_simp; omega) | (simp only [sBlk]; simp; omega), by (simp only [sBlk]; go_simp), by (simp only [sBlk]; go_simp), by (simp only [sBlk]; go_simp), by (simp only [sBlk]; go_simp), by (simp only [sBlk]; go_simp), by (simp only [sBlk]; go_simp), fun o => by (simp only [sBlk]; go_simp)⟩
  intro B b72 w12 hR
  obtain ⟨hb_w12, leB, ltB, r0_w12, r1_w12, r2_w12, r3_w12, r4_w12, r5_w12, rf_w12⟩ := hR
  clear C1 C2 P4 G4
  have hk_w12 : Below w7.heap.size w7 w12 := blw
  have XB_w12 := Lib.hid (fun o => (hk_w12.cell (p := ⟨w.heap.size, o, none⟩) (show w.heap.size < w7.heap.size by omega)).trans (XB_w7.out o))
  have OB_w12 := Lib.hid (fun o => (hk_w12.cell (p := ⟨w.heap.size + 1, o, none⟩) lt_w7).trans (OB_w7.out o))
  have OF_w12 := Lib.hid (fun o => (hk_w12.frozen (p := ⟨w.heap.size + 1, o, none⟩) lt_w7).trans (OF_w7.out o))
  have hv_w12 : Below w.heap.size w w12 := Below.trans hv_w7 (hk_w12.mono (by omega))
  have lt_w12 : w.heap.size + 1 < w12.heap.size := Nat.lt_of_lt_of_le lt_w7 hk_w12.size
  have ltb_w12 : w.heap.size < w12.heap.size := (by omega)
  have n_w12 : ¬ w.heap.size = w12.heap.size := (by omega)
  have m_w12 : ¬ w.heap.size + 1 = w12.heap.size := (by omega)
  have le_w12 := hk_w12.size
  clear XB_w7 OB_w7 OF_w7 hv_w7 hk_w12 n_w7 m_w7
  clear hb_w12
  clear x0_w7 x1_w7 x2_w7 x3_w7 x18_w7 x19_w7 x14_w7 x15_w7
  have nB1 : ¬ B = w.heap.size + 1 := (by omega)
  have nB2 : ¬ w.heap.size + 1 = B := (by omega)
  have nB3 : ¬ B = w12.heap.size := (by omega)
  go_wp2_with fail
  refine (RS.out _).mono ?_
  rintro e w13 ⟨rfl, hb_w13⟩
  have r0_w13 : w13.cell? ⟨B, 0, none⟩ = some (.int .i64 R0) := keepC hb_w13 (by go_simp)
  have r1_w13 : w13.cell? ⟨B, 1, none⟩ = some (.int .i64 R1) := keepC hb_w13 (by go_simp)
  have r2_w13 : w13.cell? ⟨B, 2, none⟩ = some (.int .i64 T0) := keepC hb_w13 (by go_simp)
  have r3_w13 : w13.cell? ⟨B, 3, none⟩ = some (.int .i64 T1) := keepC hb_w13 (by go_simp)
  have r4_w13 : w13.cell? ⟨B, 4, none⟩ = some (.int .i64 0) := keepC hb_w13 (by go_simp)
  have r5_w13 : w13.cell? ⟨B, 5, none⟩ = some (.int .i64 0) := keepC hb_w13 (by go_simp)
  have ltB13 : B < w13.heap.size := World.block_lt_of_cell? _ _ r0_w13
  have rf_w13 : ∀ o, w13.frozen? ⟨B, o, none⟩ = false := fun o => (hb_w13.frozen (p := ⟨B, o, none⟩) ltB).trans (rf_w12 o)
  have hk_w13 : Below w12.heap.size w12 w13 := blw
  have XB_w13 := Lib.hid (fun o => (hk_w13.cell (p := ⟨w.heap.size, o, none⟩) (show w.heap.size < w12.heap.size by omega)).trans (XB_w12.out o))
  have OB_w13 := Lib.hid (fun o => (hk_w13.cell (p := ⟨w.heap.size + 1, o, none⟩) lt_w12).trans (OB_w12.out o))
  have OF_w13 := Lib.hid (fun o => (hk_w13.frozen (p := ⟨w.heap.size + 1, o, none⟩) lt_w12).trans (OF_w12.out o))
  have hv_w13 : Below w.heap.size w w13 := Below.trans hv_w12 (hk_w13.mono (by omega))
  have lt_w13 : w.heap.size + 1 < w13.heap.size := Nat.lt_of_lt_of_le lt_w12 hk_w13.size
  have ltb_w13 : w.heap.size < w13.heap.size := (by omega)
  have n_w13 : ¬ w.heap.size = w13.heap.size := (by omega)
  have m_w13 : ¬ w.heap.size + 1 = w13.heap.size := (by omega)
  have le_w13 := hk_w13.size
  clear XB_w12 OB_w12 OF_w12 hv_w12 hk_w13 n_w12 m_w12
  clear hb_w13 r0_w12 r1_w12 r2_w12 r3_w12 r4_w12 r5_w12 rf_w12
  have OB : ∀ o, w13.cell? ⟨w.heap.size + 1, o, none⟩ = (#[.int .i64 0, .int .i64 0, .int .i64 0, .int .i64 0, .int .i64 0, .int .i64 0] : Array Value)[o]? := fun o => (OB_w13.out o).trans (by simp)
  have OF := OF_w13.out
  clear XB_w13 OB_w13 OF_w13
  repeat' (first | go_values | go_skip | go_guarded | go_step | go_upon | (simp only []; go_simp))
  (with_reducible show bodyPost _ _ _ _ _ _); refine bodyPost_ret (by simp [results, Tryz.results15, go_sem, *]; first | done | rfl) rfl ?_
  exact ⟨rfl, blw⟩
end Go.Proofs.YticobgianbecpaaGreatDoor
