/- The walks of the reference's directions. -/
import Derived.Test.YtjgmjnjpgdadhaaArcPub
import Derived.Test.YtjgmjnjpgdadhaaDirLaw
import Derived.RegionTactic
import Derived.ChangeAlike
import Derived.BigRegion
namespace Go.Proofs.Ytjgmjnjpgdadhaa
open Go.RowKit

set_option maxRecDepth 100000 in
set_option maxHeartbeats 4000000 in
theorem rdir_a (m : Int) (p : Nat) (w : World) (h1 : -4611686018427387904 ≤ m) (h2 : m ≤ 4611686018427387904) (hp : (p : Int) = m % 4194304) (hc : p ≤ 524288) :
    Calls Try.prog 97 #[.int .i64 m] w fun e w' => e = .returned (.agg #[.int .i64 (fstX p), .int .i64 (fstY p)]) ∧ Below w.heap.size w w' := by
  have CM : Hid (∀ w, Calls Try.prog 98 #[.int .i64 m, .int .i64 4194304] w fun e w' => e = .returned (.int .i64 p) ∧ w' = w) := Lib.hid fun w => by
    have t := bMod_any m 4194304 w (by omega) (by omega) (by omega) (by omega)
    rw [← hp] at t; exact t
  have CR : Hid (∀ w, Calls Try.prog 114 #[.int .i64 2251799813685248] w fun e w' => e = .returned (.int .i64 47453132) ∧ w' = w) := Lib.hid fun w => by
    have t := bRoot_any 2251799813685248 w (by omega) (by omega)
    rw [rt_eighth] at t; exact t
  clear h1 h2 hp
  have c1 : decide ((2097152 : Int) ≤ p) = false := by simp; omega
  have c2 : decide ((1048576 : Int) ≤ p) = false := by simp; omega
  have c3 : decide ((524288 : Int) < p) = false := by simp; omega
  by_cases h0 : p = 0
  · subst h0
    have HF : Hid (fstX 0 = 67108864 ∧ fstY 0 = 0) := Lib.hid fst_zero
    rw [HF.out.1, HF.out.2]
    go_enter Try.func97, Try.ntmps97
    go_wp2_with fail
    refine (CM.out _).mono ?_
    rintro e w' ⟨rfl, rfl⟩
    go_wp2_with fail
    refine (CR.out _).mono ?_
    rintro e w' ⟨rfl, rfl⟩
    go_wp2
    refine bodyPost_ret (by simp [results, Try.results97, go_sem, *]; first | done | rfl) rfl ?_
    exact ⟨rfl, (by repeat' (first | (with_reducible exact Below.refl _ _) | (with_reducible assumption) | (with_reducible refine bl_alloc ?_ _) | (with_reducible refine bl_drew ?_) | (with_reducible refine bl_drewN ?_) | (with_reducible refine bl_setCell ?_ ?_ _) | (with_reducible refine bl_call ?_ (by with_reducible assumption)) | omega | (simp; done) | (simp; omega)))⟩
  · have t0 : ((p : Int) == 0) = false := by simp; omega
    have H0 := Lib.hid h0
    clear h0
    go_enter Try.func97, Try.ntmps97
    go_wp2_with fail
    refine (CM.out _).mono ?_
    rintro e w' ⟨rfl, rfl⟩
    go_wp2_with fail
    refine (CR.out _).mono ?_
    rintro e w' ⟨rfl, rfl⟩
    go_wp2_with fail
    clear c1 c2 c3 t0
    go_loopw [7, 8] (fun s t wr => ∃ (k lo hi : Nat) (a b c d : Int), k ≤ 19 ∧ Hid (hi = lo + 2 ^ k) ∧ lo < p ∧ p ≤ hi ∧ hi ≤ 524288 ∧ Dirn a b ∧ Dirn c d ∧ Hid (dirF 19 p 67108864 0 47453132 47453132 = dirF k (p - lo) a b c d) ∧
      s = .int .i64 lo ∧ t = .int .i64 hi ∧ Pt wr (w.heap.size + 1) a b ∧ Pt wr (w.heap.size + 1 + 1) c d ∧ Pt wr w.heap.size 0 0 ∧ Below w.heap.size w wr ∧ w.heap.size + 1 + 1 < wr.heap.size) (fun s t _ => (intOf t).toNat - (intOf s).toNat)
    case atStart =>
      have := H0.out
      refine ⟨19, 0, 524288, _, _, _, _, by omega, Lib.hid rfl, by omega, by omega, by omega, dirn_a, dirn_b, Lib.hid rfl, rfl, rfl, ?_, ?_, ?_, (by repeat' (first | (with_reducible exact Below.refl _ _) | (with_reducible assumption) | (with_reducible refine bl_alloc ?_ _) | (with_reducible refine bl_drew ?_) | (with_reducible refine bl_drewN ?_) | (with_reducible refine bl_setCell ?_ ?_ _) | (with_reducible refine bl_call ?_ (by with_reducible assumption)) | omega | (simp; done) | (simp; omega))), by simp⟩ <;> (unfold Pt; simp [go_sem])
    case round =>
      clear H0
      obtain ⟨k, lo, hi, a, b, c, d, hk, H1, h2, h3, h4, d1, d2, H5, rfl, rfl, p1, p2, p3, hb, hsz⟩ := hrel
      unfold Pt at p1 p2 p3
      obtain ⟨p10, p11, p12, p13⟩ := p1
      obtain ⟨p20, p21, p22, p23⟩ := p2
      obtain ⟨p30, p31, p32, p33⟩ := p3
      have q1 : w.heap.size < wr.heap.size := by omega
      have q2 : w.heap.size + 1 < wr.heap.size := by omega
      by_cases e2 : p = hi
      · have HF : Hid ((fstX p, fstY p) = (c, d)) := Lib.hid (by unfold fstX fstY; rw [H5.out, show p - lo = 2 ^ k by rw [e2, H1.out]; exact Nat.add_sub_cancel_left _ _, dirF_hi])
        have t3 : ((p : Int) != (hi : Int)) = false := by simp [e2]
        clear e2 H5 H1
        go_wp2
        refine bodyPost_ret (v := .agg #[.int .i64 c, .int .i64 d]) (by simp [results, Try.results97, go_sem, *]) rfl ⟨?_, (by repeat' (first | (with_reducible exact Below.refl _ _) | (with_reducible assumption) | (with_reducible refine bl_alloc ?_ _) | (with_reducible refine bl_drew ?_) | (with_reducible refine bl_drewN ?_) | (with_reducible refine bl_setCell ?_ ?_ _) | (with_reducible refine bl_call ?_ (by with_reducible assumption)) | omega | (simp; done) | (simp; omega)))⟩
        have := HF.out
        simp only [Prod.mk.injEq] at this
        rw [this.1, this.2]
      · obtain ⟨k, rfl⟩ : ∃ k', k = k' + 1 := by
          rcases k with _ | k
          · have := H1.out; simp at this; omega
          · exact ⟨k, rfl⟩
        have hT0 : 2 ^ (k + 1) = 2 ^ k + 2 ^ k := by rw [Nat.pow_succ]; omega
        have hTp : 0 < 2 ^ k := Nat.two_pow_pos k
        have HS := Lib.hid (dirF_step k (p - lo) a b c d)
        have ⟨f1, f2, f3, f4, f5, f6, f7, f8, f9⟩ := bw_facts d1 d2
        have r1 : 1 ≤ bwR a b c d := Int.le_trans (by decide) (Int.le_trans f1 f2)
        have r2 : ¬ bwR a b c d = 0 := fun k => by rw [k] at r1; exact absurd r1 (by decide)
        have r3 : (bwR a b c d == 0) = false := by rw [beq_eq_false_iff_ne]; exact r2
        have hR : bwR a b c d = rt ((a + c) * (a + c) + (b + d) * (b + d)) := by unfold bwR; rfl
        have cr := fun w => bRoot_any ((a + c) * (a + c) + (b + d) * (b + d)) w (by omega) (by omega)
        rw [← hR] at cr
        have CR2 := Lib.hid cr
        have D1 := Lib.hid d1
        have D2 := Lib.hid d2
        have d3 := bw_dirn d1 d2
        have D3 := Lib.hid d3
        have qq : 0 ≤ (a + c) * (a + c) ∧ (a + c) * (a + c) ≤ 36028797018963968 ∧ 0 ≤ (b + d) * (b + d) ∧ (b + d) * (b + d) ≤ 36028797018963968 := by
          have := sq_nonneg (a + c); have := sq_nonneg (b + d); omega
        obtain ⟨q3, q4, q5, q6⟩ := qq
        have eX : ((a + c) * 67108864).tdiv (bwR a b c d) = bwX a b c d := by unfold bwX; exact Int.tdiv_eq_ediv_of_nonneg f6
        have eY : ((b + d) * 67108864).tdiv (bwR a b c d) = bwY a b c d := by unfold bwY; exact Int.tdiv_eq_ediv_of_nonneg f8
        have wX : IntKind.i64.wrap ((a + c) * 67108864) = (a + c) * 67108864 := IntWalk.i64_in _ (by omega)
        have wY : IntKind.i64.wrap ((b + d) * 67108864) = (b + d) * 67108864 := IntWalk.i64_in _ (by omega)
        have wA : IntKind.i64.wrap (a + c) = a + c := IntWalk.i64_in _ (by omega)
        have wB : IntKind.i64.wrap (b + d) = b + d := IntWalk.i64_in _ (by omega)
        unfold Dirn at d1 d2 d3
        have vX : IntKind.i64.wrap (bwX a b c d) = bwX a b c d := IntWalk.i64_in _ (by omega)
        have vY : IntKind.i64.wrap (bwY a b c d) = bwY a b c d := IntWalk.i64_in _ (by omega)
        have H1' : Hid (hi = lo + (2 ^ k + 2 ^ k)) := Lib.hid (by rw [← hT0]; exact H1.out)
        obtain ⟨T, hT⟩ : ∃ T : Nat, T = 2 ^ k := ⟨_, rfl⟩
        have H6 := Lib.hid hT
        rw [← hT] at H1' HS hTp
        clear hT hT0 H1 cr hR d1 d2 d3
        generalize bwX a b c d = X at *
        generalize bwY a b c d = Y at *
        generalize bwR a b c d = R at *
        have t3 : ((p : Int) != (hi : Int)) = true := by simp; omega
        have t4 : (lo : Int) < p := by omega
        have t5 : (p : Int) < hi := by omega
        have E2 := Lib.hid e2
        have TP := Lib.hid hTp
        clear e2 hTp
        go_wp2_with fail
        refine calm_all (by kernel_rfl) (by kernel_rfl) fun hG => ?_
        have hg_w := hG (w.heap.size) (by first | omega | (simp; done) | (simp; omega))
        have hg_wp1 := hG (w.heap.size + 1) (by first | omega | (simp; done) | (simp; omega))
        have hg_wp2 := hG (w.heap.size + 1 + 1) (by first | omega | (simp; done) | (simp; omega))
        clear hG
        repeat (go_big_quiet_step (first | fail))
        refine wpQuiet_nil ?_
        intro w1 hb_w1
        clear hg_w hg_wp1 hg_wp2
        have hs_w1 := hb_w1.size
        (try simp at hs_w1)
        have hz_w1_w : w.heap.size < w1.heap.size := (by have hs := hb_w1.size; (try simp at hs); omega)
        have hy_w1_w : w.heap.size < w1.heap.size + 1 := (by omega)
        have hx_w1_w : w.heap.size < w1.heap.size + 1 + 1 := (by omega)
        have hc_w1_w := fun o => hb_w1.cell (p := ⟨w.heap.size, o, none⟩) (by first | omega | (simp; done) | (simp; omega))
        have hf_w1_w := fun o => hb_w1.frozen (p := ⟨w.heap.size, o, none⟩) (by first | omega | (simp; done) | (simp; omega))
        have hz_w1_wp1 : w.heap.size + 1 < w1.heap.size := (by have hs := hb_w1.size; (try simp at hs); omega)
        have hy_w1_wp1 : w.heap.size + 1 < w1.heap.size + 1 := (by omega)
        have hx_w1_wp1 : w.heap.size + 1 < w1.heap.size + 1 + 1 := (by omega)
        have hc_w1_wp1 := fun o => hb_w1.cell (p := ⟨w.heap.size + 1, o, none⟩) (by first | omega | (simp; done) | (simp; omega))
        have hf_w1_wp1 := fun o => hb_w1.frozen (p := ⟨w.heap.size + 1, o, none⟩) (by first | omega | (simp; done) | (simp; omega))
        have hz_w1_wp2 : w.heap.size + 1 + 1 < w1.heap.size := (by have hs := hb_w1.size; (try simp at hs); omega)
        have hy_w1_wp2 : w.heap.size + 1 + 1 < w1.heap.size + 1 := (by omega)
        have hx_w1_wp2 : w.heap.size + 1 + 1 < w1.heap.size + 1 + 1 := (by omega)
        have hc_w1_wp2 := fun o => hb_w1.cell (p := ⟨w.heap.size + 1 + 1, o, none⟩) (by first | omega | (simp; done) | (simp; omega))
        have hf_w1_wp2 := fun o => hb_w1.frozen (p := ⟨w.heap.size + 1 + 1, o, none⟩) (by first | omega | (simp; done) | (simp; omega))
        go_wp2_with fail
        refine (CR2.out _).mono ?_
        rintro e w1 ⟨rfl, rfl⟩
        go_wp2_with fail
        go_region
        have hmid : Hid (((lo : Int) + hi) / 2 = ((lo + T : Nat) : Int)) := Lib.hid (by have := H1'.out; omega)
        rcases Nat.lt_trichotomy p (lo + T) with hc2 | hc2 | hc2
        · have t6 : (((lo : Int) + hi) / 2 == (p : Int)) = false := by rw [hmid.out]; simp; omega
          have t7 : (p : Int) ≤ ((lo : Int) + hi) / 2 := by rw [hmid.out]; omega
          have HC := Lib.hid hc2
          clear hc2
          go_wp2_with fail
          refine calm 3 (by kernel_rfl) (by kernel_rfl) fun hG => ?_
          have hg_w := hG (w.heap.size) (by first | omega | (simp; done) | (simp; omega))
          have hg_wp1 := hG (w.heap.size + 1) (by first | omega | (simp; done) | (simp; omega))
          have hg_wp2 := hG (w.heap.size + 1 + 1) (by first | omega | (simp; done) | (simp; omega))
          have hg_w1 := hG (w1.heap.size) (by first | omega | (simp; done) | (simp; omega))
          clear hG
          simp only [List.take_succ_cons, List.take_zero, List.drop_succ_cons, List.drop_zero]
          repeat (go_big_quiet_step (first | fail))
          refine wpQuiet_nil ?_
          intro w3 hb_w3
          clear hg_w hg_wp1 hg_wp2 hg_w1
          have hs_w3 := hb_w3.size
          (try simp at hs_w3)
          have hz_w3_w : w.heap.size < w3.heap.size := (by have hs := hb_w3.size; (try simp at hs); omega)
          have hy_w3_w : w.heap.size < w3.heap.size + 1 := (by omega)
          have hx_w3_w : w.heap.size < w3.heap.size + 1 + 1 := (by omega)
          have hc_w3_w := fun o => hb_w3.cell (p := ⟨w.heap.size, o, none⟩) (by first | omega | (simp; done) | (simp; omega))
          have hf_w3_w := fun o => hb_w3.frozen (p := ⟨w.heap.size, o, none⟩) (by first | omega | (simp; done) | (simp; omega))
          have hz_w3_wp1 : w.heap.size + 1 < w3.heap.size := (by have hs := hb_w3.size; (try simp at hs); omega)
          have hy_w3_wp1 : w.heap.size + 1 < w3.heap.size + 1 := (by omega)
          have hx_w3_wp1 : w.heap.size + 1 < w3.heap.size + 1 + 1 := (by omega)
          have hc_w3_wp1 := fun o => hb_w3.cell (p := ⟨w.heap.size + 1, o, none⟩) (by first | omega | (simp; done) | (simp; omega))
          have hf_w3_wp1 := fun o => hb_w3.frozen (p := ⟨w.heap.size + 1, o, none⟩) (by first | omega | (simp; done) | (simp; omega))
          have hz_w3_wp2 : w.heap.size + 1 + 1 < w3.heap.size := (by have hs := hb_w3.size; (try simp at hs); omega)
          have hy_w3_wp2 : w.heap.size + 1 + 1 < w3.heap.size + 1 := (by omega)
          have hx_w3_wp2 : w.heap.size + 1 + 1 < w3.heap.size + 1 + 1 := (by omega)
          have hc_w3_wp2 := fun o => hb_w3.cell (p := ⟨w.heap.size + 1 + 1, o, none⟩) (by first | omega | (simp; done) | (simp; omega))
          have hf_w3_wp2 := fun o => hb_w3.frozen (p := ⟨w.heap.size + 1 + 1, o, none⟩) (by first | omega | (simp; done) | (simp; omega))
          have hz_w3_w1 : w1.heap.size < w3.heap.size := (by have hs := hb_w3.size; (try simp at hs); omega)
          have hy_w3_w1 : w1.heap.size < w3.heap.size + 1 := (by omega)
          have hx_w3_w1 : w1.heap.size < w3.heap.size + 1 + 1 := (by omega)
          have hc_w3_w1 := fun o => hb_w3.cell (p := ⟨w1.heap.size, o, none⟩) (by first | omega | (simp; done) | (simp; omega))
          have hf_w3_w1 := fun o => hb_w3.frozen (p := ⟨w1.heap.size, o, none⟩) (by first | omega | (simp; done) | (simp; omega))
          go_wp2
          go_roundw
          case rel =>
            refine ⟨k, lo, lo + T, a, b, X, Y, by omega, Lib.hid (by rw [← H6.out]), by omega, by have := HC.out; omega, by have := H1'.out; omega, D1.out, D3.out, Lib.hid (by rw [H5.out, HS.out, if_neg (by have := HC.out; omega)]), rfl, ?_, ?_, ?_, ?_, (by repeat' (first | (with_reducible exact Below.refl _ _) | (with_reducible assumption) | (with_reducible refine bl_alloc ?_ _) | (with_reducible refine bl_drew ?_) | (with_reducible refine bl_drewN ?_) | (with_reducible refine bl_setCell ?_ ?_ _) | (with_reducible refine bl_call ?_ (by with_reducible assumption)) | omega | (simp; done) | (simp; omega))), ?_⟩
            · rw [hmid.out]
            · unfold Pt; refine ⟨?_, ?_, ?_, ?_⟩ <;> simp [go_sem, *]
            · unfold Pt; refine ⟨?_, ?_, ?_, ?_⟩ <;> simp [go_sem, *]
            · unfold Pt; refine ⟨?_, ?_, ?_, ?_⟩ <;> simp [go_sem, *]
            · simp; omega
          case measure => have := H1'.out; have := TP.out; simp [intOf]; omega
        · have t6 : (((lo : Int) + hi) / 2 == (p : Int)) = true := by rw [hmid.out]; simp; omega
          have HF : Hid ((fstX p, fstY p) = (X, Y)) := Lib.hid (by unfold fstX fstY; rw [H5.out, HS.out, if_pos (by omega), show p - lo - T = 0 by omega, dirF_lo])
          clear hc2 hmid
          go_wp2
          refine bodyPost_ret (v := .agg #[.int .i64 X, .int .i64 Y]) (by simp [results, Try.results97, go_sem, *]) rfl ⟨?_, (by repeat' (first | (with_reducible exact Below.refl _ _) | (with_reducible assumption) | (with_reducible refine bl_alloc ?_ _) | (with_reducible refine bl_drew ?_) | (with_reducible refine bl_drewN ?_) | (with_reducible refine bl_setCell ?_ ?_ _) | (with_reducible refine bl_call ?_ (by with_reducible assumption)) | omega | (simp; done) | (simp; omega)))⟩
          have := HF.out
          simp only [Prod.mk.injEq] at this
          rw [this.1, this.2]
        · have t6 : (((lo : Int) + hi) / 2 == (p : Int)) = false := by rw [hmid.out]; simp; omega
          have t7 : ((lo : Int) + hi) / 2 < (p : Int) := by rw [hmid.out]; omega
          have HC := Lib.hid hc2
          clear hc2
          go_wp2_with fail
          refine calm 3 (by kernel_rfl) (by kernel_rfl) fun hG => ?_
          have hg_w := hG (w.heap.size) (by first | omega | (simp; done) | (simp; omega))
          have hg_wp1 := hG (w.heap.size + 1) (by first | omega | (simp; done) | (simp; omega))
          have hg_wp2 := hG (w.heap.size + 1 + 1) (by first | omega | (simp; done) | (simp; omega))
          have hg_w1 := hG (w1.heap.size) (by first | omega | (simp; done) | (simp; omega))
          clear hG
          simp only [List.take_succ_cons, List.take_zero, List.drop_succ_cons, List.drop_zero]
          repeat (go_big_quiet_step (first | fail))
          refine wpQuiet_nil ?_
          intro w3 hb_w3
          clear hg_w hg_wp1 hg_wp2 hg_w1
          have hs_w3 := hb_w3.size
          (try simp at hs_w3)
          have hz_w3_w : w.heap.size < w3.heap.size := (by have hs := hb_w3.size; (try simp at hs); omega)
          have hy_w3_w : w.heap.size < w3.heap.size + 1 := (by omega)
          have hx_w3_w : w.heap.size < w3.heap.size + 1 + 1 := (by omega)
          have hc_w3_w := fun o => hb_w3.cell (p := ⟨w.heap.size, o, none⟩) (by first | omega | (simp; done) | (simp; omega))
          have hf_w3_w := fun o => hb_w3.frozen (p := ⟨w.heap.size, o, none⟩) (by first | omega | (simp; done) | (simp; omega))
          have hz_w3_wp1 : w.heap.size + 1 < w3.heap.size := (by have hs := hb_w3.size; (try simp at hs); omega)
          have hy_w3_wp1 : w.heap.size + 1 < w3.heap.size + 1 := (by omega)
          have hx_w3_wp1 : w.heap.size + 1 < w3.heap.size + 1 + 1 := (by omega)
          have hc_w3_wp1 := fun o => hb_w3.cell (p := ⟨w.heap.size + 1, o, none⟩) (by first | omega | (simp; done) | (simp; omega))
          have hf_w3_wp1 := fun o => hb_w3.frozen (p := ⟨w.heap.size + 1, o, none⟩) (by first | omega | (simp; done) | (simp; omega))
          have hz_w3_wp2 : w.heap.size + 1 + 1 < w3.heap.size := (by have hs := hb_w3.size; (try simp at hs); omega)
          have hy_w3_wp2 : w.heap.size + 1 + 1 < w3.heap.size + 1 := (by omega)
          have hx_w3_wp2 : w.heap.size + 1 + 1 < w3.heap.size + 1 + 1 := (by omega)
          have hc_w3_wp2 := fun o => hb_w3.cell (p := ⟨w.heap.size + 1 + 1, o, none⟩) (by first | omega | (simp; done) | (simp; omega))
          have hf_w3_wp2 := fun o => hb_w3.frozen (p := ⟨w.heap.size + 1 + 1, o, none⟩) (by first | omega | (simp; done) | (simp; omega))
          have hz_w3_w1 : w1.heap.size < w3.heap.size := (by have hs := hb_w3.size; (try simp at hs); omega)
          have hy_w3_w1 : w1.heap.size < w3.heap.size + 1 := (by omega)
          have hx_w3_w1 : w1.heap.size < w3.heap.size + 1 + 1 := (by omega)
          have hc_w3_w1 := fun o => hb_w3.cell (p := ⟨w1.heap.size, o, none⟩) (by first | omega | (simp; done) | (simp; omega))
          have hf_w3_w1 := fun o => hb_w3.frozen (p := ⟨w1.heap.size, o, none⟩) (by first | omega | (simp; done) | (simp; omega))
          go_wp2
          go_roundw
          case rel =>
            refine ⟨k, lo + T, hi, X, Y, c, d, by omega, Lib.hid (by rw [H1'.out, ← H6.out]; omega), HC.out, by omega, by omega, D3.out, D2.out, Lib.hid (by rw [H5.out, HS.out, if_pos (by have := HC.out; omega), show p - lo - T = p - (lo + T) by omega]), ?_, rfl, ?_, ?_, ?_, (by repeat' (first | (with_reducible exact Below.refl _ _) | (with_reducible assumption) | (with_reducible refine bl_alloc ?_ _) | (with_reducible refine bl_drew ?_) | (with_reducible refine bl_drewN ?_) | (with_reducible refine bl_setCell ?_ ?_ _) | (with_reducible refine bl_call ?_ (by with_reducible assumption)) | omega | (simp; done) | (simp; omega))), ?_⟩
            · rw [hmid.out]
            · unfold Pt; refine ⟨?_, ?_, ?_, ?_⟩ <;> simp [go_sem, *]
            · unfold Pt; refine ⟨?_, ?_, ?_, ?_⟩ <;> simp [go_sem, *]
            · unfold Pt; refine ⟨?_, ?_, ?_, ?_⟩ <;> simp [go_sem, *]
            · simp; omega
          case measure => have := H1'.out; have := TP.out; simp [intOf]; omega
end Go.Proofs.Ytjgmjnjpgdadhaa
