/- The fit of small changes: the reference's walk. -/
import Derived.Test.YtjbfaaolfonmaaaGreatKChange
import Derived.Test.YtjbfaaolfonmaaaGreatRSmall
namespace Go.Proofs.YtjbfaaolfonmaaaGreat
open Go Go.Sort Go.RowKit

theorem rpart_is (n : Int) (t : Bool) (w : World) (h : inR n (-1000) 1000 = t) : Calls Tryz.prog 95 #[.int .i64 n] w fun e w' => e = .returned (.bool t) ∧ w' = w := by
  have C := Lib.hid (fun w => r7within_is n (-1000) 1000 t w h)
  clear h
  go_enter Tryz.func95, Tryz.ntmps95
  go_wp2_with fail
  refine (C.out _).mono ?_
  rintro e w' ⟨rfl, rfl⟩
  repeat' (first | go_values | go_skip | go_guarded | go_step | go_upon | (simp only []; go_simp))
  go_ret
  exact ⟨rfl, rfl⟩

set_option maxRecDepth 100000 in
set_option maxHeartbeats 8000000 in
theorem rchangeOf_any (p q : Option Addr) (n m cp cq : Nat) (Z Y : Nat → Nat → Int) (hn : n ≤ 1000000) (hm : m ≤ 1000000) (w : World) (hz : Zs p n 2 Z w) (hy : Zs q m 1 Y w) :
    Calls Tryz.prog 31 #[.slice p n cp, .slice q m cq] w fun E w' => ChgRet (chgQ (Z · 0) (Z · 1) (Y · 0) n m) (chgA (Z · 0) (Z · 1) (Y · 0) n m) (chgB (Z · 0) (Z · 1) (Y · 0) n m) (chgD (Z · 0) (Z · 1) (Y · 0) n m) w E w' := by
  generalize hr : (Z · 0) = r
  generalize hs : (Z · 1) = s
  generalize hv : (Y · 0) = v
  have hr : ∀ i, Z i 0 = r i := fun i => congrFun hr i
  have hs : ∀ i, Z i 1 = s i := fun i => congrFun hs i
  have hv : ∀ i, Y i 0 = v i := fun i => congrFun hv i
  obtain ⟨Q, hQ⟩ : ∃ Q, chgQ r s v n m = Q := ⟨_, rfl⟩
  obtain ⟨A, hA⟩ : ∃ Q, chgA r s v n m = Q := ⟨_, rfl⟩
  obtain ⟨B, hB⟩ : ∃ Q, chgB r s v n m = Q := ⟨_, rfl⟩
  obtain ⟨D, hD⟩ : ∃ Q, chgD r s v n m = Q := ⟨_, rfl⟩
  rw [hQ, hA, hB, hD]
  unfold chgA at hA; unfold chgB at hB; unfold chgD at hD
  rw [hQ] at hA hB hD
  unfold ChgRet
  have bad : Q ≠ 0 → A = 0 ∧ B = 0 ∧ D = 0 := fun h => by rw [if_neg h] at hA hB hD; exact ⟨hA.symm, hB.symm, hD.symm⟩
  have bad := Lib.hid bad
  by_cases c1 : n = 0
  · have e : Q = 12 := by rw [← hQ]; unfold chgQ; rw [if_pos c1]
    obtain ⟨rfl, rfl, rfl⟩ := bad.out (by rw [e]; decide)
    subst c1; subst e
    clear hQ hA hB hD hz hy hr hs hv bad
    go_enter Tryz.func31, Tryz.ntmps31
    repeat' (first | go_values | go_skip | go_guarded | go_step | go_upon | (simp only []; go_simp))
    (with_reducible show bodyPost _ _ _ _ _ _); refine bodyPost_ret (by simp [results, Tryz.results31, go_sem, *]; first | done | rfl) rfl ?_
    exact ⟨rfl, blw⟩
  have c1' : ¬ ((n : Int) = 0) := by omega
  have c1b : ((n : Int) == 0) = false := by simpa using c1
  by_cases c2 : m = n
  case neg =>
    have e : Q = 12 := by rw [← hQ]; unfold chgQ; rw [if_neg c1, if_pos c2]
    obtain ⟨rfl, rfl, rfl⟩ := bad.out (by rw [e]; decide)
    have c2' : ¬ ((m : Int) = n) := by omega
    have c2b : ((m : Int) != n) = true := by simpa using c2'
    subst e
    clear hQ hA hB hD hz hy hr hs hv bad
    go_enter Tryz.func31, Tryz.ntmps31
    repeat' (first | go_values | go_skip | go_guarded | go_step | go_upon | (simp only []; go_simp))
    (with_reducible show bodyPost _ _ _ _ _ _); refine bodyPost_ret (by simp [results, Tryz.results31, go_sem, *]; first | done | rfl) rfl ?_
    exact ⟨rfl, blw⟩
  subst c2
  have c2b : ((m : Int) != m) = false := by simp
  by_cases c3 : 20 < m
  · have e : Q = 8 := by rw [← hQ]; unfold chgQ; rw [if_neg c1, if_neg (not_not_intro rfl), if_pos c3]
    obtain ⟨rfl, rfl, rfl⟩ := bad.out (by rw [e]; decide)
    have c3' : (20 : Int) < m := by omega
    subst e
    clear hQ hA hB hD hz hy hr hs hv bad c3
    go_enter Tryz.func31, Tryz.ntmps31
    repeat' (first | go_values | go_skip | go_guarded | go_step | go_upon | (simp only []; go_simp))
    (with_reducible show bodyPost _ _ _ _ _ _); refine bodyPost_ret (by simp [results, Tryz.results31, go_sem, *]; first | done | rfl) rfl ?_
    exact ⟨rfl, blw⟩
  have c3' : ¬ ((20 : Int) < m) := by omega
  have hQ : (if okTo r s v m = false then 2 else if (sums r s v m).den = 0 then 28 else 0) = Q := by rw [← hQ]; unfold chgQ; simp only [if_neg c1, if_neg c3, ne_eq, not_true_eq_false, if_false]
  have HQ := Lib.hid hQ
  have HA := Lib.hid hA
  have HB := Lib.hid hB
  have HD := Lib.hid hD
  clear hQ hA hB hD
  go_enter Tryz.func31, Tryz.ntmps31
  go_wp2_with fail
  go_loopw [6, 7, 8, 9, 10, 11] (fun u0 u1 u2 u3 u4 i wr => ∃ (k : Nat) (xx xy yy sx sy : Int), k ≤ m ∧ i = .int .i64 k ∧ u0 = .int .i64 xx ∧ u1 = .int .i64 xy ∧ u2 = .int .i64 yy ∧ u3 = .int .i64 sx ∧ u4 = .int .i64 sy ∧ HidS r s v k ⟨xx, xy, yy, sx, sy⟩ ∧ Hid (okTo r s v k = true) ∧
    Below w.heap.size w wr ∧ w.heap.size < wr.heap.size ∧ (∀ o, wr.cell? ⟨w.heap.size, o, none⟩ = (#[.int .i64 0, .int .i64 0, .int .i64 0] : Array Value)[o]?) ∧ (∀ o, wr.frozen? ⟨w.heap.size, o, none⟩ = false)) (fun _ _ _ _ _ i _ => m - (intOf i).toNat)
  case atStart => exact ⟨0, 0, 0, 0, 0, 0, by omega, rfl, rfl, rfl, rfl, rfl, rfl, rfl, Lib.hid rfl, blw, by first | (simp; done) | (simp; omega), fun o => by go_simp, fun o => by go_simp⟩
  case round =>
    obtain ⟨k, xx, xy, yy, sx, sy, hk, rfl, rfl, rfl, rfl, rfl, rfl, HS, HO, hb_wr, hz_wr_w, hc_wr_w, hf_wr_w⟩ := hrel
    have hx_wr_w : w.heap.size < wr.heap.size + 1 := by omega
    have hy_wr_w : w.heap.size < wr.heap.size + 1 + 1 := by omega
    by_cases hlt : k < m
    · obtain ⟨a, ha, ca⟩ := (hz.bel hb_wr).get k hlt
      obtain ⟨b, hb, cb⟩ := (hy.bel hb_wr).get k hlt
      have r0 := ca 0 (by omega)
      have r1 := ca 1 (by omega)
      have v0 := cb 0 (by omega)
      rw [hr] at r0
      rw [hs] at r1
      rw [hv] at v0
      have la := World.block_lt_of_cell? wr _ r0
      have lb := World.block_lt_of_cell? wr _ v0
      rw [Nat.add_zero] at r0 v0 la lb
      rw [Nat.mul_one] at v0 lb
      rw [← add_off] at r1
      have na : ¬ (a.add (k * 2)).block = wr.heap.size := by omega
      have nb : ¬ (b.add k).block = wr.heap.size := by omega
      have hlt2 : (k : Int) < m := by omega
      subst ha; subst hb
      clear ca cb hz hy hr hs hv
      by_cases g0 : inR (r k) (-1000) 1000 = true
      case neg =>
        have e : Q = 2 := by rw [← HQ.out, if_pos (okTo_bad hlt (by simp [g0]))]
        obtain ⟨rfl, rfl, rfl⟩ := bad.out (by rw [e]; decide)
        subst e
        have g0' : inR (r k) (-1000) 1000 = false := by simpa using g0
        have PT := Lib.hid (fun w => rpart_is _ _ w g0')
        clear HQ HA HB HD HS HO bad
        generalize r k = x at *
        generalize s k = y at *
        generalize v k = z at *
        go_wp2_with fail
        first | (go_region_held3 (fun w' => w'.cell? (a.add (k * 2)) = some (.int .i64 x) ∧ w'.cell? ⟨(a.add (k * 2)).block, (a.add (k * 2)).off + 1, none⟩ = some (.int .i64 y) ∧ w'.cell? (b.add k) = some (.int .i64 z)) (simp [*, go_sem]) (fail)) | fail "region 9"
        go_wp2_with fail
        refine (PT.out _).mono ?_
        rintro e w' ⟨rfl, rfl⟩
        repeat' (first | go_values | go_skip | go_guarded | go_step | go_upon | (simp only []; go_simp))
        (with_reducible show bodyPost _ _ _ _ _ _); refine bodyPost_ret (by simp [results, Tryz.results31, go_sem, *]; first | done | rfl) rfl ?_
        exact ⟨rfl, blw⟩
      have P0 := Lib.hid (fun w => rpart_is _ _ w g0)
      by_cases g1 : inR (s k) (-1000) 1000 = true
      case neg =>
        have e : Q = 2 := by rw [← HQ.out, if_pos (okTo_bad hlt (by simp [g1]))]
        obtain ⟨rfl, rfl, rfl⟩ := bad.out (by rw [e]; decide)
        subst e
        have g1' : inR (s k) (-1000) 1000 = false := by simpa using g1
        have PT := Lib.hid (fun w => rpart_is _ _ w g1')
        clear HQ HA HB HD HS HO bad
        generalize r k = x at *
        generalize s k = y at *
        generalize v k = z at *
        go_wp2_with fail
        first | (go_region_held3 (fun w' => w'.cell? (a.add (k * 2)) = some (.int .i64 x) ∧ w'.cell? ⟨(a.add (k * 2)).block, (a.add (k * 2)).off + 1, none⟩ = some (.int .i64 y) ∧ w'.cell? (b.add k) = some (.int .i64 z)) (simp [*, go_sem]) (fail)) | fail "region 9"
        go_wp2_with fail
        refine (P0.out _).mono ?_
        rintro e w' ⟨rfl, rfl⟩
        go_wp2_with fail
        refine (PT.out _).mono ?_
        rintro e w' ⟨rfl, rfl⟩
        repeat' (first | go_values | go_skip | go_guarded | go_step | go_upon | (simp only []; go_simp))
        (with_reducible show bodyPost _ _ _ _ _ _); refine bodyPost_ret (by simp [results, Tryz.results31, go_sem, *]; first | done | rfl) rfl ?_
        exact ⟨rfl, blw⟩
      have P1 := Lib.hid (fun w => rpart_is _ _ w g1)
      by_cases g2 : inR (v k) (-1000) 1000 = true
      case neg =>
        have e : Q = 2 := by rw [← HQ.out, if_pos (okTo_bad hlt (by simp [g2]))]
        obtain ⟨rfl, rfl, rfl⟩ := bad.out (by rw [e]; decide)
        subst e
        have g2' : inR (v k) (-1000) 1000 = false := by simpa using g2
        have PT := Lib.hid (fun w => rpart_is _ _ w g2')
        clear HQ HA HB HD HS HO bad
        generalize r k = x at *
        generalize s k = y at *
        generalize v k = z at *
        go_wp2_with fail
        first | (go_region_held3 (fun w' => w'.cell? (a.add (k * 2)) = some (.int .i64 x) ∧ w'.cell? ⟨(a.add (k * 2)).block, (a.add (k * 2)).off + 1, none⟩ = some (.int .i64 y) ∧ w'.cell? (b.add k) = some (.int .i64 z)) (simp [*, go_sem]) (fail)) | fail "region 9"
        go_wp2_with fail
        refine (P0.out _).mono ?_
        rintro e w' ⟨rfl, rfl⟩
        go_wp2_with fail
        refine (P1.out _).mono ?_
        rintro e w' ⟨rfl, rfl⟩
        go_wp2_with fail
        refine (PT.out _).mono ?_
        rintro e w' ⟨rfl, rfl⟩
        repeat' (first | go_values | go_skip | go_guarded | go_step | go_upon | (simp only []; go_simp))
        (with_reducible show bodyPost _ _ _ _ _ _); refine bodyPost_ret (by simp [results, Tryz.results31, go_sem, *]; first | done | rfl) rfl ?_
        exact ⟨rfl, blw⟩
      have P2 := Lib.hid (fun w => rpart_is _ _ w g2)
      have bd := sum_bd (by omega) HO.out
      have HO' := Lib.hid (okTo_up HO.out g0 g1 g2)
      have HS' : HidS r s v (k + 1) ⟨xx + r k * r k, xy + r k * s k, yy + s k * s k, sx + r k * v k, sy + s k * v k⟩ := by
        unfold HidS at HS ⊢
        simp only [sums, HS]
      unfold HidS at HS
      rw [HS] at bd
      have HS' := Lib.hid HS'
      have g0 := inR_yes.1 g0
      have g1 := inR_yes.1 g1
      have g2 := inR_yes.1 g2
      clear HQ HA HB HD HS HO bad
      simp only at bd
      generalize r k = x at *
      generalize s k = y at *
      generalize v k = z at *
      have b1 := prod_bd g0.1 g0.2 g0.1 g0.2
      have b2 := prod_bd g0.1 g0.2 g1.1 g1.2
      have b3 := prod_bd g1.1 g1.2 g1.1 g1.2
      have b4 := prod_bd g0.1 g0.2 g2.1 g2.2
      have b5 := prod_bd g1.1 g1.2 g2.1 g2.2
      have W1 : IntKind.i64.wrap (x * x) = x * x := IntWalk.i64_in _ ⟨by omega, by omega⟩
      have W2 : IntKind.i64.wrap (x * y) = x * y := IntWalk.i64_in _ ⟨by omega, by omega⟩
      have W3 : IntKind.i64.wrap (y * y) = y * y := IntWalk.i64_in _ ⟨by omega, by omega⟩
      have W4 : IntKind.i64.wrap (x * z) = x * z := IntWalk.i64_in _ ⟨by omega, by omega⟩
      have W5 : IntKind.i64.wrap (y * z) = y * z := IntWalk.i64_in _ ⟨by omega, by omega⟩
      have W6 : IntKind.i64.wrap (xx + x * x) = xx + x * x := IntWalk.i64_in _ ⟨by omega, by omega⟩
      have W7 : IntKind.i64.wrap (xy + x * y) = xy + x * y := IntWalk.i64_in _ ⟨by omega, by omega⟩
      have W8 : IntKind.i64.wrap (yy + y * y) = yy + y * y := IntWalk.i64_in _ ⟨by omega, by omega⟩
      have W9 : IntKind.i64.wrap (sx + x * z) = sx + x * z := IntWalk.i64_in _ ⟨by omega, by omega⟩
      have WA : IntKind.i64.wrap (sy + y * z) = sy + y * z := IntWalk.i64_in _ ⟨by omega, by omega⟩
      go_wp2_with fail
      first | (go_region_held3 (fun w' => w'.cell? (a.add (k * 2)) = some (.int .i64 x) ∧ w'.cell? ⟨(a.add (k * 2)).block, (a.add (k * 2)).off + 1, none⟩ = some (.int .i64 y) ∧ w'.cell? (b.add k) = some (.int .i64 z)) (simp [*, go_sem]) (fail)) | fail "region 9"
      go_wp2_with fail
      refine (P0.out _).mono ?_
      rintro e w' ⟨rfl, rfl⟩
      go_wp2_with fail
      refine (P1.out _).mono ?_
      rintro e w' ⟨rfl, rfl⟩
      go_wp2_with fail
      refine (P2.out _).mono ?_
      rintro e w' ⟨rfl, rfl⟩
      go_wp2_with fail
      go_roundw
      case rel => exact ⟨k + 1, xx + x * x, xy + x * y, yy + y * y, sx + x * z, sy + y * z, by omega, by first | (simp; done) | (simp; omega), rfl, rfl, rfl, rfl, rfl, HS'.out, HO', blw, by first | omega | (simp; done) | (simp; omega), fun o => by go_simp, fun o => by go_simp⟩
      case measure => simp [intOf]; omega
    · obtain rfl : k = m := by omega
      have ho := HO.out
      have HQ := HQ.out
      rw [ho, if_neg (by decide)] at HQ
      have bd := sum_bd (by omega) HO.out
      unfold HidS at HS
      have HA := HA.out
      have HB := HB.out
      have HD := HD.out
      have nn := den_nonneg r s v k
      rw [HS] at bd HQ HA HB HD nn
      have ea : (⟨xx, xy, yy, sx, sy⟩ : Sums).a = sx * yy - sy * xy := rfl
      have eb : (⟨xx, xy, yy, sx, sy⟩ : Sums).b = sy * xx - sx * xy := rfl
      rw [ea] at HA
      rw [eb] at HB
      replace bd : (0 ≤ xx ∧ xx ≤ 20000000) ∧ (-20000000 ≤ xy ∧ xy ≤ 20000000) ∧ (0 ≤ yy ∧ yy ≤ 20000000) ∧ (-20000000 ≤ sx ∧ sx ≤ 20000000) ∧ (-20000000 ≤ sy ∧ sy ≤ 20000000) := bd
      have b1 := prod_bd (by omega : -20000000 ≤ sx) bd.2.2.2.1.2 (by omega : -20000000 ≤ yy) bd.2.2.1.2
      have b2 := prod_bd (by omega : -20000000 ≤ sy) bd.2.2.2.2.2 (by omega : -20000000 ≤ xy) bd.2.1.2
      have b3 := prod_bd (by omega : -20000000 ≤ sy) bd.2.2.2.2.2 (by omega : -20000000 ≤ xx) bd.1.2
      have b4 := prod_bd (by omega : -20000000 ≤ sx) bd.2.2.2.1.2 (by omega : -20000000 ≤ xy) bd.2.1.2
      have b5 := prod_bd (by omega : -20000000 ≤ xx) bd.1.2 (by omega : -20000000 ≤ yy) bd.2.2.1.2
      have b6 := prod_bd (by omega : -20000000 ≤ xy) bd.2.1.2 (by omega : -20000000 ≤ xy) bd.2.1.2
      have W1 : wrap64 (sx * yy) = sx * yy := IntWalk.wrap64_in _ ⟨by omega, by omega⟩
      have W2 : wrap64 (sy * xy) = sy * xy := IntWalk.wrap64_in _ ⟨by omega, by omega⟩
      have W3 : wrap64 (sy * xx) = sy * xx := IntWalk.wrap64_in _ ⟨by omega, by omega⟩
      have W4 : wrap64 (sx * xy) = sx * xy := IntWalk.wrap64_in _ ⟨by omega, by omega⟩
      have W5 : wrap64 (xx * yy) = xx * yy := IntWalk.wrap64_in _ ⟨by omega, by omega⟩
      have W6 : wrap64 (xy * xy) = xy * xy := IntWalk.wrap64_in _ ⟨by omega, by omega⟩
      have W7 : wrap64 (sx * yy - sy * xy) = sx * yy - sy * xy := IntWalk.wrap64_in _ ⟨by omega, by omega⟩
      have W8 : wrap64 (sy * xx - sx * xy) = sy * xx - sx * xy := IntWalk.wrap64_in _ ⟨by omega, by omega⟩
      have W9 : wrap64 (xx * yy - xy * xy) = xx * yy - xy * xy := IntWalk.wrap64_in _ ⟨by omega, by omega⟩
      have hlt2 : ¬ ((k : Int) < k) := by omega
      have ed : (⟨xx, xy, yy, sx, sy⟩ : Sums).den = xx * yy - xy * xy := rfl
      by_cases hd : (⟨xx, xy, yy, sx, sy⟩ : Sums).den = 0
      · rw [if_pos hd] at HQ
        obtain ⟨rfl, rfl, rfl⟩ := bad.out (by rw [← HQ]; decide)
        subst HQ
        rw [ed] at hd
        have hd1 : ((xx * yy - xy * xy) == 0) = true := by simpa using hd
        clear HA HB HD bad hz hy hr hs hv HS HO ho nn hd ed ea eb
        repeat' (first | go_values | go_skip | go_guarded | go_step | go_upon | (simp only []; go_simp))
        (with_reducible show bodyPost _ _ _ _ _ _); refine bodyPost_ret (by simp [results, Tryz.results31, go_sem, *]; first | done | rfl) rfl ?_
        exact ⟨rfl, blw⟩
      · rw [if_neg hd] at HQ
        rw [← HQ, if_pos rfl] at HA HB HD
        rw [ed] at hd HD
        subst HQ; subst HA; subst HB; subst HD
        have hd1 : ((xx * yy - xy * xy) == 0) = false := by simpa using hd
        clear bad hz hy hr hs hv HS HO ho nn hd ed ea eb
        repeat' (first | go_values | go_skip | go_guarded | go_step | go_upon | (simp only []; go_simp))
        (with_reducible show bodyPost _ _ _ _ _ _); refine bodyPost_ret (by simp [results, Tryz.results31, go_sem, *]; first | done | rfl) rfl ?_
        exact ⟨rfl, blw⟩
end Go.Proofs.YtjbfaaolfonmaaaGreat
