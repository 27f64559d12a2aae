/- The statement on small changes: its walk. -/
import Derived.Test.YtjbfaaolfonmaaaGreatZsCopy
import Derived.Test.YtjbfaaolfonmaaaGreatAwake7
namespace Go.Proofs.YtjbfaaolfonmaaaGreat
open Go Go.Sort Go.RowKit

theorem eq_frac (x y : Int) (w : World) : (Op.equalIn 9999 53 (.agg #[.int .i64 x, .int .i64 y]) (.agg #[.int .i64 x, .int .i64 y])).run Tryz.prog w = .ok true w := by simp [go_sem]
theorem run_eq_two (a b c d : Int) (w : World) : (binOp .eql 54 (.agg #[.int .i64 a, .int .i64 b, .int .i64 c, .int .i64 d]) (.agg #[.int .i64 a, .int .i64 b, .int .i64 c, .int .i64 d])).run Tryz.prog w = .ok (.bool true) w := by
  rw [run_eql_struct]
  rw [show (10000 : Nat) = 9999 + 1 from rfl, Op.equalIn]
  simp [go_sem, Std.Legacy.Range.forIn_eq_forIn_range', Std.Legacy.Range.size, List.range', eq_frac, part, isAgg]
@[go_sem high] theorem run_neq_two (a b c d : Int) (w : World) : (binOp .neq 54 (.agg #[.int .i64 a, .int .i64 b, .int .i64 c, .int .i64 d]) (.agg #[.int .i64 a, .int .i64 b, .int .i64 c, .int .i64 d])).run Tryz.prog w = .ok (.bool false) w := by
  rw [run_neq_struct]
  rw [show (10000 : Nat) = 9999 + 1 from rfl, Op.equalIn]
  simp [go_sem, Std.Legacy.Range.forIn_eq_forIn_range', Std.Legacy.Range.size, List.range', eq_frac, part, isAgg]

set_option maxRecDepth 100000 in
set_option maxHeartbeats 16000000 in
theorem fitChanges_any (p q : Option Addr) (n m cp cq : Nat) (Z Y : Nat → Nat → Int) (hp : p = none → n = 0 ∧ cp = 0) (hq0 : q = none → m = 0 ∧ cq = 0) (w : World) (hz : Zs p n 2 Z w) (hy : Zs q m 1 Y w) :
    Calls Tryz.prog 5 #[.slice p n cp, .slice q m cq] w fun E w' => E = .returned (.bool true) ∧ Below w.heap.size w w' := by
  by_cases h22 : 22 < n
  · have h22' : (22 : Int) < n := by omega
    clear hz hy hp hq0
    go_enter Tryz.func5, Tryz.ntmps5
    go_wp2_with fail
    refine (awake7_any _).mono ?_
    rintro e w1 ⟨rfl, hb_w1⟩
    have hs_w1 := hb_w1.size
    (try simp at hs_w1)
    repeat' (first | go_values | go_skip | go_guarded | go_step | go_upon | (simp only []; go_simp))
    go_ret
    exact ⟨rfl, blw⟩
  have h22' : ¬ ((22 : Int) < n) := by omega
  by_cases h23 : 22 < m
  · have h23' : (22 : Int) < m := by omega
    clear hz hy hp hq0
    go_enter Tryz.func5, Tryz.ntmps5
    go_wp2_with fail
    refine (awake7_any _).mono ?_
    rintro e w1 ⟨rfl, hb_w1⟩
    have hs_w1 := hb_w1.size
    (try simp at hs_w1)
    repeat' (first | go_values | go_skip | go_guarded | go_step | go_upon | (simp only []; go_simp))
    go_ret
    exact ⟨rfl, blw⟩
  have h23' : ¬ ((22 : Int) < m) := by omega
  have SC := Lib.hid (fun p' q' cp' cq' w' h1 h2 => SmallChange_any p' q' n m cp' cq' Z Y (by omega) (by omega) w' h1 h2)
  have MI := Lib.hid (fun p' q' cp' cq' w' h1 h2 => Misses_any p' q' n m cp' cq' Z Y (by omega) (by omega) w' h1 h2)
  have RS := Lib.hid (fun w' (h : Below w.heap.size w w') => rSmallChange_any p q n m cp cq Z Y (by omega) (by omega) w' (hz.bel h) (hy.bel h))
  have RM := Lib.hid (fun w' (h : Below w.heap.size w w') => rMisses_any p q n m cp cq Z Y (by omega) (by omega) w' (hz.bel h) (hy.bel h))
  have RC := Lib.hid (fun w' (h : Below w.heap.size w w') => rchangeOf_any p q n m cp cq Z Y (by omega) (by omega) w' (hz.bel h) (hy.bel h))
  unfold MissRet at MI RM
  unfold ChgRet at RC
  have CI := Lib.hid (fun w' (h : Below w.heap.size w w') => copyInts_any q m cq Y hq0 (by omega) w' (hy.bel h))
  have HZ := Lib.hid (And.intro hz hy)
  have hz0 := hz
  obtain ⟨r, hr⟩ : ∃ r, (Z · 0) = r := ⟨_, rfl⟩
  obtain ⟨s, hs⟩ : ∃ r, (Z · 1) = r := ⟨_, rfl⟩
  obtain ⟨v, hv⟩ : ∃ r, (Y · 0) = r := ⟨_, rfl⟩
  rw [hr, hs, hv] at SC MI RS RM RC
  have HR := Lib.hid (And.intro (fun i => (congrFun hr i : Z i 0 = r i)) (And.intro (fun i => (congrFun hs i : Z i 1 = s i)) (fun i => (congrFun hv i : Y i 0 = v i))))
  clear hr hs hv hz hy
  have CF : Hid (∀ Q, chgQ r s v n m = Q → Q ≠ 0 → missQ r s v n m = Q ∧ missC r s v n m = 0) := Lib.hid (fun Q h hQ => miss_err h hQ)
  have MQ : Hid (missQ r s v n m = 0 → chgQ r s v n m = 0 ∧ missC r s v n m = n) := Lib.hid (fun h => by
    by_cases hq : chgQ r s v n m = 0
    · refine ⟨hq, ?_⟩
      unfold missC
      rw [if_pos h]
    · have := (miss_err rfl hq).1
      omega)
  have CG : Hid (chgQ r s v n m = 0 → _) := Lib.hid (fun h => chg_good h)
  have CN : Hid (missC r s v n m ≤ n) := Lib.hid (by unfold missC; split <;> omega)
  obtain ⟨F, hF⟩ : ∃ F, smallC r s v n m = F := ⟨_, rfl⟩
  rw [hF] at SC RS
  clear hF
  obtain ⟨an, ad, bn, bd, fq⟩ := F
  unfold Fit.ret at SC RS
  simp only at SC RS
  obtain ⟨Q, hQ⟩ : ∃ Q, missQ r s v n m = Q := ⟨_, rfl⟩
  obtain ⟨C, hC⟩ : ∃ C, missC r s v n m = C := ⟨_, rfl⟩
  have MN : Hid (∀ i, missN r s v n i = lowN (miss r s v n i) (sums r s v n).den) := Lib.hid (fun i => by unfold missN; rfl)
  have MD : Hid (∀ i, missD r s v n i = lowD (miss r s v n i) (sums r s v n).den) := Lib.hid (fun i => by unfold missD; rfl)
  obtain ⟨NN, hNN⟩ : ∃ f, missN r s v n = f := ⟨_, rfl⟩
  obtain ⟨DD, hDD⟩ : ∃ f, missD r s v n = f := ⟨_, rfl⟩
  rw [hQ, hC, hNN, hDD] at MI RM
  rw [hQ, hC] at MQ
  rw [hC] at CN
  rw [hNN] at MN
  rw [hDD] at MD
  have FR := Lib.hid (fun p1 p2 c1 c2 w h1 h2 => fracs_same p1 p2 C c1 c2 NN DD (by have := CN.out; omega) w h1 h2)
  clear hQ hC hNN hDD CF
  cases p with
  | none =>
    obtain ⟨rfl, rfl⟩ := hp rfl
    clear hp hq0 hz0
    go_enter Tryz.func5, Tryz.ntmps5
    go_wp2_with fail
    refine (awake7_any _).mono ?_
    rintro e w0 ⟨rfl, hb_w0⟩
    have hs_w0 := hb_w0.size
    go_wp2_with fail
    have hz_w1 : Zs (some ⟨0, 0, none⟩) 0 2 Z w0 := ⟨fun i hi => by omega⟩
    refine (CI.out _ blw).mono ?_
    rintro E w2 ⟨q0, d0, rfl, hy_w2, hb_w2⟩
    have hy_w2 := Lib.hid hy_w2
    go_wp2_with fail
    refine (SC.out _ q0 _ d0 _ ⟨fun i hi => by omega⟩ hy_w2.out).mono ?_
    rintro E w3 ⟨rfl, hb_w3⟩
    clear hy_w2
    go_wp2_with fail
    have hz_w4 : Zs (some ⟨0, 0, none⟩) 0 2 Z w3 := ⟨fun i hi => by omega⟩
    refine (CI.out _ blw).mono ?_
    rintro E w5 ⟨q1, d1, rfl, hy_w5, hb_w5⟩
    have hy_w5 := Lib.hid hy_w5
    have s0_w5 : w5.cell? ⟨w3.heap.size, 0, none⟩ = some (.int .i64 an) := (hb_w5.cell (p := ⟨w3.heap.size, 0, none⟩) lto).trans (by go_simp)
    have s1_w5 : w5.cell? ⟨w3.heap.size, 1, none⟩ = some (.int .i64 ad) := (hb_w5.cell (p := ⟨w3.heap.size, 1, none⟩) lto).trans (by go_simp)
    have s2_w5 : w5.cell? ⟨w3.heap.size, 2, none⟩ = some (.int .i64 bn) := (hb_w5.cell (p := ⟨w3.heap.size, 2, none⟩) lto).trans (by go_simp)
    have s3_w5 : w5.cell? ⟨w3.heap.size, 3, none⟩ = some (.int .i64 bd) := (hb_w5.cell (p := ⟨w3.heap.size, 3, none⟩) lto).trans (by go_simp)
    go_wp2_with fail
    refine (MI.out _ q1 _ d1 _ ⟨fun i hi => by omega⟩ hy_w5.out).mono ?_
    rintro E w6 ⟨l0, k0, rfl, hf1, hb_w6⟩
    have hf1 := Lib.hid hf1
    clear hy_w5
    have s0_w6 := (hb_w6.cell (World.block_lt_of_cell? _ _ s0_w5)).trans s0_w5
    have s1_w6 := (hb_w6.cell (World.block_lt_of_cell? _ _ s1_w5)).trans s1_w5
    have s2_w6 := (hb_w6.cell (World.block_lt_of_cell? _ _ s2_w5)).trans s2_w5
    have s3_w6 := (hb_w6.cell (World.block_lt_of_cell? _ _ s3_w5)).trans s3_w5
    clear s0_w5 s1_w5 s2_w5 s3_w5
    go_wp2_with fail
    refine (RS.out _ blw).mono ?_
    rintro E w7 ⟨rfl, hb_w7⟩
    have s0_w7 := (hb_w7.cell (World.block_lt_of_cell? _ _ s0_w6)).trans s0_w6
    have s1_w7 := (hb_w7.cell (World.block_lt_of_cell? _ _ s1_w6)).trans s1_w6
    have s2_w7 := (hb_w7.cell (World.block_lt_of_cell? _ _ s2_w6)).trans s2_w6
    have s3_w7 := (hb_w7.cell (World.block_lt_of_cell? _ _ s3_w6)).trans s3_w6
    clear s0_w6 s1_w6 s2_w6 s3_w6
    have lt7 := World.block_lt_of_cell? _ _ s0_w7
    (try simp at lt7)
    have ne7 : ¬ w3.heap.size = w7.heap.size := by omega
    have ne8 : ¬ w7.heap.size = w3.heap.size := by omega
    have lt8 : w3.heap.size < w7.heap.size + 1 := by omega
    go_wp2_with fail
    refine (RM.out _ blw).mono ?_
    rintro E w8 ⟨l1, k1, rfl, hf2, hb_w8⟩
    have s0_w8 : w8.cell? ⟨w3.heap.size, 0, none⟩ = some (.int .i64 an) := (hb_w8.cell (p := ⟨w3.heap.size, 0, none⟩) lto).trans (by go_simp)
    have t0_w8 : w8.cell? ⟨w7.heap.size, 0, none⟩ = some (.int .i64 an) := (hb_w8.cell (p := ⟨w7.heap.size, 0, none⟩) lto).trans (by go_simp)
    have s1_w8 : w8.cell? ⟨w3.heap.size, 1, none⟩ = some (.int .i64 ad) := (hb_w8.cell (p := ⟨w3.heap.size, 1, none⟩) lto).trans (by go_simp)
    have t1_w8 : w8.cell? ⟨w7.heap.size, 1, none⟩ = some (.int .i64 ad) := (hb_w8.cell (p := ⟨w7.heap.size, 1, none⟩) lto).trans (by go_simp)
    have s2_w8 : w8.cell? ⟨w3.heap.size, 2, none⟩ = some (.int .i64 bn) := (hb_w8.cell (p := ⟨w3.heap.size, 2, none⟩) lto).trans (by go_simp)
    have t2_w8 : w8.cell? ⟨w7.heap.size, 2, none⟩ = some (.int .i64 bn) := (hb_w8.cell (p := ⟨w7.heap.size, 2, none⟩) lto).trans (by go_simp)
    have s3_w8 : w8.cell? ⟨w3.heap.size, 3, none⟩ = some (.int .i64 bd) := (hb_w8.cell (p := ⟨w3.heap.size, 3, none⟩) lto).trans (by go_simp)
    have t3_w8 : w8.cell? ⟨w7.heap.size, 3, none⟩ = some (.int .i64 bd) := (hb_w8.cell (p := ⟨w7.heap.size, 3, none⟩) lto).trans (by go_simp)
    clear s0_w7 s1_w7 s2_w7 s3_w7
    have hf2 := Lib.hid hf2
    have hf1 := Lib.hid (hf1.out.bel (show Below w6.heap.size w6 w8 from blw))
    go_wp2_with fail
    refine (FR.out l0 l1 k0 k1 _ (hf1.out.bel blw) (hf2.out.bel blw)).mono ?_
    rintro E w9 ⟨rfl, hb_w9⟩
    have hf1 := Lib.hid (hf1.out.bel (show Below w8.heap.size w8 w9 from blw))
    clear hf2 FR RM RS MI SC CI
    by_cases hQ : Q = 0
    case neg =>
      have hQ1 : (Q != 0) = true := by simpa using hQ
      clear MQ
      repeat' (first | go_values | go_skip | go_guarded | go_step | go_upon | (simp only []; go_simp))
      go_ret
      exact ⟨rfl, blw⟩
    · exfalso
      have := (MQ.out hQ).1
      have := (CG.out this).1
      omega
  | some a =>
    obtain ⟨ii, hi0, hi1, hi2, hi3⟩ := pair_row
    have b1 : 0 + n ≤ maxLen := by unfold maxLen; omega
    have b2 : (0 + n) * 16 ≤ 140737488355328 := by omega
    have HC := Lib.hid (And.intro (flat2_len (Z · 0) (Z · 1) n) (And.intro b1 b2))
    clear b1 b2
    clear hp hq0 hz0
    go_enter Tryz.func5, Tryz.ntmps5
    go_wp2_with fail
    refine (awake7_any _).mono ?_
    rintro e w0 ⟨rfl, hb_w0⟩
    have hs_w0 := hb_w0.size
    go_wp2_with (at_builtin; refine wpList_mark ?_)
    refine wpList_append_own _ rfl _ _ 50 rfl w0.heap.size 67 ii _ 2 16 Tryz.underlying50 hi0 hi1 hi2 hi3 rfl (by decide) _ 0 [] rfl (owns_made (by first | rfl | (simp; done)) (by omega)) a n cp (flat2 (Z · 0) (Z · 1) n) rfl HC.out.1 (HZ.out.1.bel (show Below w.heap.size w _ from blw)).cells2 (flat2_one _ _ _) HC.out.2.1 HC.out.2.2 (by first | (simp; done) | (simp; omega)) ?_
    intro V0 w1 hown hgrow _
    have hb_w1 : Below w0.heap.size w0 w1 := (show Below w0.heap.size w0 _ from blw).grown hgrow (by first | (simp; done) | (simp; omega)) (fun b hb => by cases hb; first | exact Nat.le_refl _ | (simp; done) | (simp; omega))
    obtain ⟨p0, c0, rfl, hz_w1⟩ := zs_own2 (by rw [List.nil_append, Nat.zero_add] at hown; exact hown)
    have hz_w1 := Lib.hid hz_w1
    clear hown hgrow
    go_wp2_with fail
    refine (CI.out _ blw).mono ?_
    rintro E w2 ⟨q0, d0, rfl, hy_w2, hb_w2⟩
    have hy_w2 := Lib.hid hy_w2
    go_wp2_with fail
    refine (SC.out p0 q0 c0 d0 _ (hz_w1.out.bel (show Below w1.heap.size w1 w2 from blw)) hy_w2.out).mono ?_
    rintro E w3 ⟨rfl, hb_w3⟩
    clear hy_w2 hz_w1
    go_wp2_with (at_builtin; refine wpList_mark ?_)
    refine wpList_append_own _ rfl _ _ 50 rfl w3.heap.size 67 ii _ 2 16 Tryz.underlying50 hi0 hi1 hi2 hi3 rfl (by decide) _ 0 [] rfl (owns_made (by first | rfl | (simp; done)) (by omega)) a n cp (flat2 (Z · 0) (Z · 1) n) rfl HC.out.1 (HZ.out.1.bel (show Below w.heap.size w _ from blw)).cells2 (flat2_one _ _ _) HC.out.2.1 HC.out.2.2 (by first | (simp; done) | (simp; omega)) ?_
    intro V1 w4 hown hgrow _
    have hb_w4 : Below w3.heap.size w3 w4 := (show Below w3.heap.size w3 _ from blw).grown hgrow (by first | (simp; done) | (simp; omega)) (fun b hb => by cases hb; first | exact Nat.le_refl _ | (simp; done) | (simp; omega))
    obtain ⟨p1, c1, rfl, hz_w4⟩ := zs_own2 (by rw [List.nil_append, Nat.zero_add] at hown; exact hown)
    have hz_w4 := Lib.hid hz_w4
    have s0_w4 : w4.cell? ⟨w3.heap.size, 0, none⟩ = some (.int .i64 an) := hgrow.cell (by go_simp) (by intro e; have e2 : some w3.heap.size = some (w3.heap.size + 1) := e; simp at e2)
    have s1_w4 : w4.cell? ⟨w3.heap.size, 1, none⟩ = some (.int .i64 ad) := hgrow.cell (by go_simp) (by intro e; have e2 : some w3.heap.size = some (w3.heap.size + 1) := e; simp at e2)
    have s2_w4 : w4.cell? ⟨w3.heap.size, 2, none⟩ = some (.int .i64 bn) := hgrow.cell (by go_simp) (by intro e; have e2 : some w3.heap.size = some (w3.heap.size + 1) := e; simp at e2)
    have s3_w4 : w4.cell? ⟨w3.heap.size, 3, none⟩ = some (.int .i64 bd) := hgrow.cell (by go_simp) (by intro e; have e2 : some w3.heap.size = some (w3.heap.size + 1) := e; simp at e2)
    clear hown hgrow
    go_wp2_with fail
    refine (CI.out _ blw).mono ?_
    rintro E w5 ⟨q1, d1, rfl, hy_w5, hb_w5⟩
    have hy_w5 := Lib.hid hy_w5
    have s0_w5 := (hb_w5.cell (World.block_lt_of_cell? _ _ s0_w4)).trans s0_w4
    have s1_w5 := (hb_w5.cell (World.block_lt_of_cell? _ _ s1_w4)).trans s1_w4
    have s2_w5 := (hb_w5.cell (World.block_lt_of_cell? _ _ s2_w4)).trans s2_w4
    have s3_w5 := (hb_w5.cell (World.block_lt_of_cell? _ _ s3_w4)).trans s3_w4
    clear s0_w4 s1_w4 s2_w4 s3_w4
    go_wp2_with fail
    refine (MI.out p1 q1 c1 d1 _ (hz_w4.out.bel (show Below w4.heap.size w4 w5 from blw)) hy_w5.out).mono ?_
    rintro E w6 ⟨l0, k0, rfl, hf1, hb_w6⟩
    have hf1 := Lib.hid hf1
    clear hy_w5 hz_w4
    have s0_w6 := (hb_w6.cell (World.block_lt_of_cell? _ _ s0_w5)).trans s0_w5
    have s1_w6 := (hb_w6.cell (World.block_lt_of_cell? _ _ s1_w5)).trans s1_w5
    have s2_w6 := (hb_w6.cell (World.block_lt_of_cell? _ _ s2_w5)).trans s2_w5
    have s3_w6 := (hb_w6.cell (World.block_lt_of_cell? _ _ s3_w5)).trans s3_w5
    clear s0_w5 s1_w5 s2_w5 s3_w5
    go_wp2_with fail
    refine (RS.out _ blw).mono ?_
    rintro E w7 ⟨rfl, hb_w7⟩
    have s0_w7 := (hb_w7.cell (World.block_lt_of_cell? _ _ s0_w6)).trans s0_w6
    have s1_w7 := (hb_w7.cell (World.block_lt_of_cell? _ _ s1_w6)).trans s1_w6
    have s2_w7 := (hb_w7.cell (World.block_lt_of_cell? _ _ s2_w6)).trans s2_w6
    have s3_w7 := (hb_w7.cell (World.block_lt_of_cell? _ _ s3_w6)).trans s3_w6
    clear s0_w6 s1_w6 s2_w6 s3_w6
    have lt7 := World.block_lt_of_cell? _ _ s0_w7
    (try simp at lt7)
    have ne7 : ¬ w3.heap.size = w7.heap.size := by omega
    have ne8 : ¬ w7.heap.size = w3.heap.size := by omega
    have lt8 : w3.heap.size < w7.heap.size + 1 := by omega
    go_wp2_with fail
    refine (RM.out _ blw).mono ?_
    rintro E w8 ⟨l1, k1, rfl, hf2, hb_w8⟩
    have s0_w8 : w8.cell? ⟨w3.heap.size, 0, none⟩ = some (.int .i64 an) := (hb_w8.cell (p := ⟨w3.heap.size, 0, none⟩) lto).trans (by go_simp)
    have t0_w8 : w8.cell? ⟨w7.heap.size, 0, none⟩ = some (.int .i64 an) := (hb_w8.cell (p := ⟨w7.heap.size, 0, none⟩) lto).trans (by go_simp)
    have s1_w8 : w8.cell? ⟨w3.heap.size, 1, none⟩ = some (.int .i64 ad) := (hb_w8.cell (p := ⟨w3.heap.size, 1, none⟩) lto).trans (by go_simp)
    have t1_w8 : w8.cell? ⟨w7.heap.size, 1, none⟩ = some (.int .i64 ad) := (hb_w8.cell (p := ⟨w7.heap.size, 1, none⟩) lto).trans (by go_simp)
    have s2_w8 : w8.cell? ⟨w3.heap.size, 2, none⟩ = some (.int .i64 bn) := (hb_w8.cell (p := ⟨w3.heap.size, 2, none⟩) lto).trans (by go_simp)
    have t2_w8 : w8.cell? ⟨w7.heap.size, 2, none⟩ = some (.int .i64 bn) := (hb_w8.cell (p := ⟨w7.heap.size, 2, none⟩) lto).trans (by go_simp)
    have s3_w8 : w8.cell? ⟨w3.heap.size, 3, none⟩ = some (.int .i64 bd) := (hb_w8.cell (p := ⟨w3.heap.size, 3, none⟩) lto).trans (by go_simp)
    have t3_w8 : w8.cell? ⟨w7.heap.size, 3, none⟩ = some (.int .i64 bd) := (hb_w8.cell (p := ⟨w7.heap.size, 3, none⟩) lto).trans (by go_simp)
    clear s0_w7 s1_w7 s2_w7 s3_w7
    have hf2 := Lib.hid hf2
    have hf1 := Lib.hid (hf1.out.bel (show Below w6.heap.size w6 w8 from blw))
    go_wp2_with fail
    refine (FR.out l0 l1 k0 k1 _ (hf1.out.bel blw) (hf2.out.bel blw)).mono ?_
    rintro E w9 ⟨rfl, hb_w9⟩
    have hf1 := Lib.hid (hf1.out.bel (show Below w8.heap.size w8 w9 from blw))
    clear hf2 FR RM RS MI SC CI
    by_cases hQ : Q = 0
    case neg =>
      have hQ1 : (Q != 0) = true := by simpa using hQ
      clear MQ
      repeat' (first | go_values | go_skip | go_guarded | go_step | go_upon | (simp only []; go_simp))
      go_ret
      exact ⟨rfl, blw⟩
    subst hQ
    obtain ⟨hq, rfl⟩ := MQ.out rfl
    obtain ⟨n1, n20, rfl, hok, hd, eA, eB, eD⟩ := CG.out hq
    rw [hq, eA, eB, eD] at RC
    have HD := Lib.hid hd
    clear hq eA eB eD hok n20 hd CG MQ
    by_cases h5 : 5 < m
    · have h5' : (5 : Int) < m := by omega
      repeat' (first | go_values | go_skip | go_guarded | go_step | go_upon | (simp only []; go_simp))
      go_ret
      exact ⟨rfl, blw⟩
    have h5' : ¬ ((5 : Int) < m) := by omega
    go_wp2_with fail
    go_loopw [13] (fun i wr => ∃ k : Nat, k ≤ m ∧ i = .int .i64 k ∧ Hid (∀ i, i < k → (-20 ≤ r i ∧ r i ≤ 20) ∧ (-20 ≤ s i ∧ s i ≤ 20) ∧ (-20 ≤ v i ∧ v i ≤ 20)) ∧ Below w9.heap.size w9 wr) (fun i _ => m - (intOf i).toNat)
    case atStart => exact ⟨0, by omega, rfl, Lib.hid (fun i hi => by omega), blw⟩
    case round =>
      obtain ⟨k, hk, rfl, HB, hb_wr⟩ := hrel
      by_cases hlt : k < m
      · obtain ⟨hz, hy⟩ := HZ.out
        obtain ⟨hr, hs, hv⟩ := HR.out
        obtain ⟨_, e9, ca⟩ := (hz.bel (show Below w.heap.size w wr from blw)).get k hlt
        cases e9
        obtain ⟨b, rfl, cb⟩ := (hy.bel (show Below w.heap.size w wr from blw)).get k hlt
        have r0 := ca 0 (by omega)
        have r1 := ca 1 (by omega)
        have v0 := cb 0 (by omega)
        rw [hr] at r0
        rw [hs] at r1
        rw [hv] at v0
        rw [Nat.add_zero] at r0 v0
        rw [Nat.mul_one] at v0
        rw [← add_off] at r1
        have hlt2 : (k : Int) < m := by omega
        clear ca cb hz hy hr hs hv
        by_cases g0 : inR (r k) (-20) 20 = true
        case neg =>
          have g' : inR (r k) (-20) 20 = false := by simpa using g0
          have PT := Lib.hid (fun w => r7within_is _ _ _ _ w g')
          clear HB
          generalize r k = x at *
          generalize s k = y at *
          generalize v k = z at *
          go_wp2_with fail
          refine (PT.out _).mono ?_
          rintro e w' ⟨rfl, rfl⟩
          repeat' (first | go_values | go_skip | go_guarded | go_step | go_upon | (simp only []; go_simp))
          go_ret
          exact ⟨rfl, blw⟩
        have P0 := Lib.hid (fun w => r7within_is _ _ _ _ w g0)
        by_cases g1 : inR (s k) (-20) 20 = true
        case neg =>
          have g' : inR (s k) (-20) 20 = false := by simpa using g1
          have PT := Lib.hid (fun w => r7within_is _ _ _ _ w g')
          clear HB
          generalize r k = x at *
          generalize s k = y at *
          generalize v k = z at *
          go_wp2_with fail
          refine (P0.out _).mono ?_
          rintro e w' ⟨rfl, rfl⟩
          go_wp2_with fail
          refine (PT.out _).mono ?_
          rintro e w' ⟨rfl, rfl⟩
          repeat' (first | go_values | go_skip | go_guarded | go_step | go_upon | (simp only []; go_simp))
          go_ret
          exact ⟨rfl, blw⟩
        have P1 := Lib.hid (fun w => r7within_is _ _ _ _ w g1)
        by_cases g2 : inR (v k) (-20) 20 = true
        case neg =>
          have g' : inR (v k) (-20) 20 = false := by simpa using g2
          have PT := Lib.hid (fun w => r7within_is _ _ _ _ w g')
          clear HB
          generalize r k = x at *
          generalize s k = y at *
          generalize v k = z at *
          go_wp2_with fail
          refine (P0.out _).mono ?_
          rintro e w' ⟨rfl, rfl⟩
          go_wp2_with fail
          refine (P1.out _).mono ?_
          rintro e w' ⟨rfl, rfl⟩
          go_wp2_with fail
          refine (PT.out _).mono ?_
          rintro e w' ⟨rfl, rfl⟩
          repeat' (first | go_values | go_skip | go_guarded | go_step | go_upon | (simp only []; go_simp))
          go_ret
          exact ⟨rfl, blw⟩
        have P2 := Lib.hid (fun w => r7within_is _ _ _ _ w g2)
        have HB2 := Lib.hid (show ∀ i, i < k + 1 → (-20 ≤ r i ∧ r i ≤ 20) ∧ (-20 ≤ s i ∧ s i ≤ 20) ∧ (-20 ≤ v i ∧ v i ≤ 20) from fun i hi => by
          by_cases h : i < k
          · exact HB.out i h
          · obtain rfl : i = k := by omega
            exact ⟨inR_yes.1 g0, inR_yes.1 g1, inR_yes.1 g2⟩)
        clear HB g0 g1 g2
        generalize r k = x at *
        generalize s k = y at *
        generalize v k = z at *
        go_wp2_with fail
        refine (P0.out _).mono ?_
        rintro e w' ⟨rfl, rfl⟩
        go_wp2_with fail
        refine (P1.out _).mono ?_
        rintro e w' ⟨rfl, rfl⟩
        go_wp2_with fail
        refine (P2.out _).mono ?_
        rintro e w' ⟨rfl, rfl⟩
        go_wp2_with fail
        go_roundw
        case rel => exact ⟨k + 1, by omega, by first | (simp; done) | (simp; omega), HB2, blw⟩
        case measure => simp [intOf]; omega
      · obtain rfl : k = m := by omega
        have hlt2 : ¬ ((k : Int) < k) := by omega
        obtain ⟨dm, mb⟩ := last_bd (by omega) HB.out
        have HB := Lib.hid (And.intro HB.out (And.intro dm mb))
        have MB : Hid (∀ i, i < k → lowN (miss r s v k i) (sums r s v k).den * ((sums r s v k).den / lowD (miss r s v k i) (sums r s v k).den) = miss r s v k i ∧ (sums r s v k).den % lowD (miss r s v k i) (sums r s v k).den = 0 ∧ 1 ≤ lowD (miss r s v k i) (sums r s v k).den ∧ lowD (miss r s v k i) (sums r s v k).den ≤ (sums r s v k).den) := Lib.hid (fun i hi => by
          have d0 : 0 < (sums r s v k).den := by have := HD.out; omega
          obtain ⟨h1, h2⟩ := low_back (n := miss r s v k i) d0
          obtain ⟨h3, h4⟩ := lowD_pos (n := miss r s v k i) d0
          exact ⟨h1, h2, h3, h4⟩)
        have AZ := Lib.hid (against_zero r s v k)
        have AB := Lib.hid (fun j (hj : j ≤ k) => And.intro (against_bd r (miss r s v k) 400000000 20 j (fun i hi => ⟨HB.out.2.2 i (by omega), (HB.out.1 i (by omega)).1⟩)) (against_bd s (miss r s v k) 400000000 20 j (fun i hi => ⟨HB.out.2.2 i (by omega), (HB.out.1 i (by omega)).2.1⟩)))
        have AU := Lib.hid (fun j => (And.intro rfl rfl : against r (miss r s v k) (j + 1) = against r (miss r s v k) j + miss r s v k j * r j ∧ against s (miss r s v k) (j + 1) = against s (miss r s v k) j + miss r s v k j * s j))
        generalize (sums r s v k).den = D at *
        generalize (sums r s v k).a = A at *
        generalize (sums r s v k).b = B at *
        obtain ⟨M, hM⟩ : ∃ M, miss r s v k = M := ⟨_, rfl⟩
        rw [hM] at MN MD HB MB AZ AB AU
        clear hM dm mb
        have hf1 := Lib.hid (hf1.out.bel (show Below w9.heap.size w9 wr from blw))
        go_wp2_with fail
        refine (RC.out _ blw).mono ?_
        rintro E w10 ⟨rfl, hb_w10⟩
        have hf1 := Lib.hid (hf1.out.bel (show Below wr.heap.size wr w10 from blw))
        go_wp2_with fail
        go_loopw [16, 17, 18] (fun u0 u1 i wr => ∃ j : Nat, j ≤ k ∧ i = .int .i64 j ∧ u0 = .int .i64 (against r M j) ∧ u1 = .int .i64 (against s M j) ∧ Below w10.heap.size w10 wr ∧ w10.heap.size < wr.heap.size ∧ wr.cell? ⟨w10.heap.size, 2, none⟩ = some (.int .i64 D)) (fun _ _ i _ => k - (intOf i).toNat)
        case atStart => exact ⟨0, by omega, rfl, rfl, rfl, blw, by first | (simp; done) | (simp; omega), by go_simp⟩
        case round =>
          obtain ⟨j, hj, rfl, rfl, rfl, hb_w12, hz_w12, c2⟩ := hrel
          by_cases hjt : j < k
          · obtain ⟨hz, hy⟩ := HZ.out
            obtain ⟨hr, hs, hv⟩ := HR.out
            obtain ⟨_, e9, ca⟩ := (hz.bel (show Below w.heap.size w wr from blw)).get j hjt
            cases e9
            obtain ⟨f, rfl, f0, f1⟩ := (hf1.out.bel (show Below w10.heap.size w10 wr from blw)).get j hjt
            have r0 := ca 0 (by omega)
            have r1 := ca 1 (by omega)
            rw [hr] at r0
            rw [hs] at r1
            rw [Nat.add_zero] at r0
            rw [← add_off] at r1 f1
            rw [MN.out j] at f0
            rw [MD.out j] at f1
            have hjt2 : (j : Int) < k := by omega
            obtain ⟨m1, m2, m3, m4⟩ := MB.out j hjt
            obtain ⟨b1, b2⟩ := AB.out j (by omega)
            obtain ⟨b3, b4⟩ := AB.out (j + 1) (by omega)
            obtain ⟨u1, u2⟩ := AU.out j
            obtain ⟨mb1, mb2⟩ := HB.out.2.2 j hjt
            obtain ⟨rb, sb, _⟩ := HB.out.1 j hjt
            have dm := HB.out.2.1
            rw [u1] at b3
            rw [u2] at b4
            have U := Lib.hid (And.intro u1 u2)
            have KJ : ((j : Nat) : Int) ≤ 5 := by omega
            clear ca hz hy hr hs hv u1 u2
            generalize lowN (M j) D = NJ at *
            generalize lowD (M j) D = DJ at *
            generalize M j = MJ at *
            generalize r j = x at *
            generalize s j = y at *
            generalize against r M j = sx at *
            generalize against s M j = sy at *
            have B1 := prod_bd mb1 mb2 rb.1 rb.2
            have B2 := prod_bd mb1 mb2 sb.1 sb.2
            have Q1 : -40000000000 ≤ sx ∧ sx ≤ 40000000000 := by omega
            have Q2 : -40000000000 ≤ sy ∧ sy ≤ 40000000000 := by omega
            have WI := Lib.hid (fun w => r7within_is DJ 1 D true w (inR_yes.2 ⟨m3, m4⟩))
            have MO := Lib.hid (fun w => bMod_any D DJ w (by omega) (by omega) m3 (by omega))
            rw [m2] at MO
            have FL := Lib.hid (fun w => bFloor_any D DJ w (by omega) (by omega) m3 (by omega))
            have W1 : IntKind.i64.wrap (NJ * (D / DJ)) = MJ := by rw [m1]; exact IntWalk.i64_in _ ⟨by omega, by omega⟩
            have W2 : IntKind.i64.wrap (MJ * x) = MJ * x := IntWalk.i64_in _ ⟨by omega, by omega⟩
            have W3 : IntKind.i64.wrap (MJ * y) = MJ * y := IntWalk.i64_in _ ⟨by omega, by omega⟩
            have W4 : IntKind.i64.wrap (sx + MJ * x) = sx + MJ * x := IntWalk.i64_in _ ⟨by omega, by omega⟩
            have W5 : IntKind.i64.wrap (sy + MJ * y) = sy + MJ * y := IntWalk.i64_in _ ⟨by omega, by omega⟩
            have hj5 : j + 1 ≤ k := by omega
            clear m1 m2 m3 m4 b1 b2 b3 b4 mb1 mb2 rb sb dm B1 B2 Q1 Q2 KJ
            go_wp2_with fail
            first | (go_region_held3 (fun w' => w'.cell? (f.add (j * 2)) = some (.int .i64 NJ) ∧ w'.cell? ⟨(f.add (j * 2)).block, (f.add (j * 2)).off + 1, none⟩ = some (.int .i64 DJ) ∧ w'.cell? ⟨w10.heap.size, 2, none⟩ = some (.int .i64 D) ∧ w'.cell? (a.add (j * 2)) = some (.int .i64 x) ∧ w'.cell? ⟨(a.add (j * 2)).block, (a.add (j * 2)).off + 1, none⟩ = some (.int .i64 y)) (simp [*, go_sem]) (first | (go_at_call 30; refine (WI.out _).mono ?_; rintro e w' ⟨rfl, rfl⟩) | (go_at_call 32; refine (MO.out _).mono ?_; rintro e w' ⟨rfl, rfl⟩))) | fail "region 23"
            go_wp2_with fail
            first | (go_region_held3 (fun w' => w'.cell? (f.add (j * 2)) = some (.int .i64 NJ) ∧ w'.cell? ⟨(f.add (j * 2)).block, (f.add (j * 2)).off + 1, none⟩ = some (.int .i64 DJ) ∧ w'.cell? ⟨w10.heap.size, 2, none⟩ = some (.int .i64 D) ∧ w'.cell? (a.add (j * 2)) = some (.int .i64 x) ∧ w'.cell? ⟨(a.add (j * 2)).block, (a.add (j * 2)).off + 1, none⟩ = some (.int .i64 y)) (simp [*, go_sem]) ((go_at_call 33; refine (FL.out _).mono ?_; rintro e w' ⟨rfl, rfl⟩))) | fail "region 25"
            go_wp2_with fail
            first | (go_region_held3 (fun w' => w'.cell? (f.add (j * 2)) = some (.int .i64 NJ) ∧ w'.cell? ⟨(f.add (j * 2)).block, (f.add (j * 2)).off + 1, none⟩ = some (.int .i64 DJ) ∧ w'.cell? ⟨w10.heap.size, 2, none⟩ = some (.int .i64 D) ∧ w'.cell? (a.add (j * 2)) = some (.int .i64 x) ∧ w'.cell? ⟨(a.add (j * 2)).block, (a.add (j * 2)).off + 1, none⟩ = some (.int .i64 y)) (simp [*, go_sem]) (fail)) | fail "region 26"
            go_wp2_with fail
            go_roundw
            case rel => exact ⟨j + 1, hj5, by first | (simp; done) | (simp; omega), by rw [U.out.1], by rw [U.out.2], blw, by first | assumption | (simp; omega), by first | assumption | (simp [*, go_sem]; done)⟩
            case measure => simp [intOf]; omega
          · obtain rfl : j = k := by omega
            have hjt2 : ¬ ((j : Int) < j) := by omega
            obtain ⟨z1, z2⟩ := AZ.out
            rw [z1, z2]
            clear z1 z2 AZ AB AU MB HB
            repeat' (first | go_values | go_skip | go_guarded | go_step | go_upon | (simp only []; go_simp))
            go_ret
            exact ⟨rfl, blw⟩
end Go.Proofs.YtjbfaaolfonmaaaGreat

