/- The walks of directions: between two, the first eighth, all of them. -/
import Derived.Test.YtjgmjnjpgdadhaaAwake
import Derived.Test.YtjgmjnjpgdadhaaDirLaw
import Derived.Outline
namespace Go.Proofs.Ytjgmjnjpgdadhaa
open Go.RowKit

theorem Dirn.sm {a b : Int} (h : Dirn a b) : Sm a ∧ Sm b := by unfold Dirn at h; unfold Sm; omega

set_option maxHeartbeats 1000000 in
theorem between_any (a b c d : Int) (w : World) (h : Dirn a b) (h' : Dirn c d) :
    Calls Try.prog 147 #[.agg #[.int .i64 a, .int .i64 b], .agg #[.int .i64 c, .int .i64 d]] w fun e w' => e = .returned (.agg #[.int .i64 (bwX a b c d), .int .i64 (bwY a b c d)]) ∧ Below w.heap.size w w' := by
  have ⟨f1, f2, f3, f4, f5, f6, f7, f8, f9⟩ := bw_facts h h'
  have CP := Lib.hid (fun w => plus_any a b c d w h.sm.1 h.sm.2 h'.sm.1 h'.sm.2)
  have s1 : Sm (a + c) := by unfold Dirn at h h'; unfold Sm; omega
  have s2 : Sm (b + d) := by unfold Dirn at h h'; unfold Sm; omega
  have CS := Lib.hid (fun w => square_any (a + c) (b + d) w s1 s2)
  have hR : bwR a b c d = rt ((a + c) * (a + c) + (b + d) * (b + d)) := by unfold bwR; rfl
  have cr := fun w => root_any ((a + c) * (a + c) + (b + d) * (b + d)) w (by omega) (by omega)
  rw [← hR] at cr
  have CR := Lib.hid cr
  have eX : ((a + c) * 67108864).tdiv (bwR a b c d) = bwX a b c d := by unfold bwX; exact Int.tdiv_eq_ediv_of_nonneg f6
  have eY : ((b + d) * 67108864).tdiv (bwR a b c d) = bwY a b c d := by unfold bwY; exact Int.tdiv_eq_ediv_of_nonneg f8
  have wX : IntKind.i64.wrap ((a + c) * 67108864) = (a + c) * 67108864 := IntWalk.i64_in _ (by omega)
  have wY : IntKind.i64.wrap ((b + d) * 67108864) = (b + d) * 67108864 := IntWalk.i64_in _ (by omega)
  have db := bw_dirn h h'
  unfold Dirn at db
  obtain ⟨g1, g2, g3, g4⟩ := db
  have vX : IntKind.i64.wrap (bwX a b c d) = bwX a b c d := IntWalk.i64_in _ (by omega)
  have vY : IntKind.i64.wrap (bwY a b c d) = bwY a b c d := IntWalk.i64_in _ (by omega)
  clear cr hR s1 s2 h h'
  generalize bwX a b c d = X at *
  generalize bwY a b c d = Y at *
  generalize bwR a b c d = r at *
  generalize (a + c) * (a + c) + (b + d) * (b + d) = S at *
  generalize a + c = p at *
  generalize b + d = q at *
  go_enter Try.func147, Try.ntmps147
  go_wp2_with fail
  refine (CP.out _).mono ?_
  rintro e w1 ⟨rfl, hb_w1⟩
  have hs_w1 := hb_w1.size
  (try simp at hs_w1)
  have hz_w1_wp2 : w.heap.size + 1 + 1 < w1.heap.size := (by have hs := hb_w1.size; (try simp at hs); omega)
  have hy_w1_wp2 : w.heap.size + 1 + 1 < w1.heap.size + 1 := (by omega)
  have hx_w1_wp2 : w.heap.size + 1 + 1 < w1.heap.size + 1 + 1 := (by omega)
  have hc_w1_wp2 := fun o => hb_w1.cell (p := ⟨w.heap.size + 1 + 1, o, none⟩) (by first | omega | (simp; done) | (simp; omega))
  have hf_w1_wp2 := fun o => hb_w1.frozen (p := ⟨w.heap.size + 1 + 1, o, none⟩) (by first | omega | (simp; done) | (simp; omega))
  go_wp2_with fail
  refine (CS.out _).mono ?_
  rintro e w2 ⟨rfl, hb_w2⟩
  have hs_w2 := hb_w2.size
  (try simp at hs_w2)
  have hz_w2_wp2 : w.heap.size + 1 + 1 < w2.heap.size := (by have hs := hb_w2.size; (try simp at hs); omega)
  have hy_w2_wp2 : w.heap.size + 1 + 1 < w2.heap.size + 1 := (by omega)
  have hx_w2_wp2 : w.heap.size + 1 + 1 < w2.heap.size + 1 + 1 := (by omega)
  have hc_w2_wp2 := fun o => hb_w2.cell (p := ⟨w.heap.size + 1 + 1, o, none⟩) (by first | omega | (simp; done) | (simp; omega))
  have hf_w2_wp2 := fun o => hb_w2.frozen (p := ⟨w.heap.size + 1 + 1, o, none⟩) (by first | omega | (simp; done) | (simp; omega))
  have hz_w2_w1 : w1.heap.size < w2.heap.size := (by have hs := hb_w2.size; (try simp at hs); omega)
  have hy_w2_w1 : w1.heap.size < w2.heap.size + 1 := (by omega)
  have hx_w2_w1 : w1.heap.size < w2.heap.size + 1 + 1 := (by omega)
  have hc_w2_w1 := fun o => hb_w2.cell (p := ⟨w1.heap.size, o, none⟩) (by first | omega | (simp; done) | (simp; omega))
  have hf_w2_w1 := fun o => hb_w2.frozen (p := ⟨w1.heap.size, o, none⟩) (by first | omega | (simp; done) | (simp; omega))
  go_wp2_with fail
  refine (CR.out _).mono ?_
  rintro e w' ⟨rfl, rfl⟩
  go_wp2_with fail
  refine calm 11 (by kernel_rfl) (by kernel_rfl) fun hG => ?_
  have hg_wp2 := hG (w.heap.size + 1 + 1) (by first | omega | (simp; done) | (simp; omega))
  have hg_w1 := hG (w1.heap.size) (by first | omega | (simp; done) | (simp; omega))
  clear hG
  simp only [List.take_succ_cons, List.take_zero, List.drop_succ_cons, List.drop_zero]
  repeat (go_big_quiet_step (first | fail))
  refine wpQuiet_nil ?_
  intro w3 hb_w3
  clear hg_wp2 hg_w1
  have hs_w3 := hb_w3.size
  (try simp at hs_w3)
  have hz_w3_wp2 : w.heap.size + 1 + 1 < w3.heap.size := (by have hs := hb_w3.size; (try simp at hs); omega)
  have hy_w3_wp2 : w.heap.size + 1 + 1 < w3.heap.size + 1 := (by omega)
  have hx_w3_wp2 : w.heap.size + 1 + 1 < w3.heap.size + 1 + 1 := (by omega)
  have hc_w3_wp2 := fun o => hb_w3.cell (p := ⟨w.heap.size + 1 + 1, o, none⟩) (by first | omega | (simp; done) | (simp; omega))
  have hf_w3_wp2 := fun o => hb_w3.frozen (p := ⟨w.heap.size + 1 + 1, o, none⟩) (by first | omega | (simp; done) | (simp; omega))
  have hz_w3_w1 : w1.heap.size < w3.heap.size := (by have hs := hb_w3.size; (try simp at hs); omega)
  have hy_w3_w1 : w1.heap.size < w3.heap.size + 1 := (by omega)
  have hx_w3_w1 : w1.heap.size < w3.heap.size + 1 + 1 := (by omega)
  have hc_w3_w1 := fun o => hb_w3.cell (p := ⟨w1.heap.size, o, none⟩) (by first | omega | (simp; done) | (simp; omega))
  have hf_w3_w1 := fun o => hb_w3.frozen (p := ⟨w1.heap.size, o, none⟩) (by first | omega | (simp; done) | (simp; omega))
  go_wp2
  refine bodyPost_ret (by simp [results, Try.results147, go_sem, *]; first | done | rfl) rfl ?_
  exact ⟨rfl, (by repeat' (first | (with_reducible exact Below.refl _ _) | (with_reducible assumption) | (with_reducible refine bl_alloc ?_ _) | (with_reducible refine bl_drew ?_) | (with_reducible refine bl_drewN ?_) | (with_reducible refine bl_setCell ?_ ?_ _) | (with_reducible refine bl_call ?_ (by with_reducible assumption)) | omega | (simp; done) | (simp; omega)))⟩

/-- Two whole numbers lie in a block. -/
def Pt (w : World) (b : Nat) (x y : Int) : Prop := w.cell? ⟨b, 0, none⟩ = some (.int .i64 x) ∧ w.cell? ⟨b, 1, none⟩ = some (.int .i64 y) ∧ w.frozen? ⟨b, 0, none⟩ = false ∧ w.frozen? ⟨b, 1, none⟩ = false

theorem dirF_step (k j : Nat) (a b c d : Int) : dirF (k + 1) j a b c d = if 2 ^ k ≤ j then dirF k (j - 2 ^ k) (bwX a b c d) (bwY a b c d) c d else dirF k j a b (bwX a b c d) (bwY a b c d) := rfl

set_option maxRecDepth 100000 in
set_option maxHeartbeats 4000000 in
theorem first_any (m : Nat) (w : World) (hm : m ≤ 524288) :
    Calls Try.prog 141 #[.int .i64 m] w fun e w' => e = .returned (.agg #[.int .i64 (fstX m), .int .i64 (fstY m)]) ∧ Below w.heap.size w w' := by
  go_enter Try.func141, Try.ntmps141
  go_wp2_with fail
  refine (root_any _ _ (by omega) (by omega)).mono ?_
  rintro e w' ⟨rfl, rfl⟩
  rw [rt_eighth]
  go_wp2_with fail
  go_loopw [6, 7] (fun s t wr => ∃ (k lo hi : Nat) (a b c d : Int), k ≤ 19 ∧ Hid (hi = lo + 2 ^ k) ∧ lo ≤ m ∧ m ≤ hi ∧ hi ≤ 524288 ∧ Dirn a b ∧ Dirn c d ∧ Hid (dirF 19 m 67108864 0 47453132 47453132 = dirF k (m - lo) a b c d) ∧
      s = .int .i64 lo ∧ t = .int .i64 hi ∧ Pt wr (w.heap.size + 1) a b ∧ Pt wr (w.heap.size + 1 + 1) c d ∧ Pt wr w.heap.size 0 0 ∧ Below w.heap.size w wr ∧ w.heap.size + 1 + 1 < wr.heap.size) (fun s t _ => (intOf t).toNat - (intOf s).toNat)
  case atStart =>
    refine ⟨19, 0, 524288, _, _, _, _, by omega, Lib.hid rfl, by omega, by omega, by omega, dirn_a, dirn_b, Lib.hid rfl, rfl, rfl, ?_, ?_, ?_, (by repeat' (first | (with_reducible exact Below.refl _ _) | (with_reducible assumption) | (with_reducible refine bl_alloc ?_ _) | (with_reducible refine bl_drew ?_) | (with_reducible refine bl_drewN ?_) | (with_reducible refine bl_setCell ?_ ?_ _) | (with_reducible refine bl_call ?_ (by with_reducible assumption)) | omega | (simp; done) | (simp; omega))), by simp⟩ <;> (unfold Pt; simp [go_sem])
  case round =>
    obtain ⟨k, lo, hi, a, b, c, d, hk, H1, h2, h3, h4, d1, d2, H5, rfl, rfl, p1, p2, p3, hb, hsz⟩ := hrel
    unfold Pt at p1 p2 p3
    obtain ⟨p10, p11, p12, p13⟩ := p1
    obtain ⟨p20, p21, p22, p23⟩ := p2
    obtain ⟨p30, p31, p32, p33⟩ := p3
    have q1 : w.heap.size < wr.heap.size := by omega
    have q2 : w.heap.size + 1 < wr.heap.size := by omega
    by_cases e1 : m = lo
    · have HF : Hid ((fstX m, fstY m) = (a, b)) := Lib.hid (by unfold fstX fstY; rw [H5.out, e1, Nat.sub_self, dirF_lo])
      have t1 : ((m : Int) != (lo : Int)) = false := by simp [e1]
      have t2 : ((m : Int) == (lo : Int)) = true := by simp [e1]
      clear e1 H5 H1
      go_wp2
      refine bodyPost_ret (v := .agg #[.int .i64 a, .int .i64 b]) (by simp [results, Try.results141, go_sem, *]) rfl ⟨?_, (by repeat' (first | (with_reducible exact Below.refl _ _) | (with_reducible assumption) | (with_reducible refine bl_alloc ?_ _) | (with_reducible refine bl_drew ?_) | (with_reducible refine bl_drewN ?_) | (with_reducible refine bl_setCell ?_ ?_ _) | (with_reducible refine bl_call ?_ (by with_reducible assumption)) | omega | (simp; done) | (simp; omega)))⟩
      have := HF.out
      simp only [Prod.mk.injEq] at this
      rw [this.1, this.2]
    · by_cases e2 : m = hi
      · have HF : Hid ((fstX m, fstY m) = (c, d)) := Lib.hid (by unfold fstX fstY; rw [H5.out, show m - lo = 2 ^ k by rw [e2, H1.out]; exact Nat.add_sub_cancel_left _ _, dirF_hi])
        have t1 : ((m : Int) != (lo : Int)) = true := by simp; omega
        have t2 : ((m : Int) == (lo : Int)) = false := by simp; omega
        have t3 : ((m : Int) != (hi : Int)) = false := by simp [e2]
        clear e1 e2 H5 H1
        go_wp2
        refine bodyPost_ret (v := .agg #[.int .i64 c, .int .i64 d]) (by simp [results, Try.results141, go_sem, *]) rfl ⟨?_, (by repeat' (first | (with_reducible exact Below.refl _ _) | (with_reducible assumption) | (with_reducible refine bl_alloc ?_ _) | (with_reducible refine bl_drew ?_) | (with_reducible refine bl_drewN ?_) | (with_reducible refine bl_setCell ?_ ?_ _) | (with_reducible refine bl_call ?_ (by with_reducible assumption)) | omega | (simp; done) | (simp; omega)))⟩
        have := HF.out
        simp only [Prod.mk.injEq] at this
        rw [this.1, this.2]
      · obtain ⟨k, rfl⟩ : ∃ k', k = k' + 1 := by
          rcases k with _ | k
          · have := H1.out; simp at this; omega
          · exact ⟨k, rfl⟩
        have hT0 : 2 ^ (k + 1) = 2 ^ k + 2 ^ k := by rw [Nat.pow_succ]; omega
        have hTp : 0 < 2 ^ k := Nat.two_pow_pos k
        have HS := Lib.hid (dirF_step k (m - lo) a b c d)
        have CB := Lib.hid (fun w => between_any a b c d w d1 d2)
        have d3 := bw_dirn d1 d2
        have H1' : Hid (hi = lo + (2 ^ k + 2 ^ k)) := Lib.hid (by rw [← hT0]; exact H1.out)
        obtain ⟨T, hT⟩ : ∃ T : Nat, T = 2 ^ k := ⟨_, rfl⟩
        have H6 := Lib.hid hT
        rw [← hT] at H1' HS hTp
        clear hT hT0 H1
        generalize bwX a b c d = X at *
        generalize bwY a b c d = Y at *
        have t1 : ((m : Int) != (lo : Int)) = true := by simp; omega
        have t3 : ((m : Int) != (hi : Int)) = true := by simp; omega
        have t4 : (lo : Int) < m := by omega
        have t5 : (m : Int) < hi := by omega
        have E1 := Lib.hid e1
        have E2 := Lib.hid e2
        have TP := Lib.hid hTp
        clear e1 e2 hTp
        by_cases hc : lo + T ≤ m
        · have t6 : ((lo : Int) + hi) / 2 ≤ (m : Int) := by have := H1'.out; omega
          have HC := Lib.hid hc
          clear hc
          go_wp2_with fail
          refine (CB.out _).mono ?_
          rintro e w1 ⟨rfl, hb1⟩
          have hs_w1 := hb1.size
          (try simp at hs_w1)
          have hz_w1_w : w.heap.size < w1.heap.size := (by have hs := hb1.size; (try simp at hs); omega)
          have hy_w1_w : w.heap.size < w1.heap.size + 1 := (by omega)
          have hx_w1_w : w.heap.size < w1.heap.size + 1 + 1 := (by omega)
          have hc_w1_w := fun o => hb1.cell (p := ⟨w.heap.size, o, none⟩) (by first | omega | (simp; done) | (simp; omega))
          have hf_w1_w := fun o => hb1.frozen (p := ⟨w.heap.size, o, none⟩) (by first | omega | (simp; done) | (simp; omega))
          have hz_w1_wp1 : w.heap.size + 1 < w1.heap.size := (by have hs := hb1.size; (try simp at hs); omega)
          have hy_w1_wp1 : w.heap.size + 1 < w1.heap.size + 1 := (by omega)
          have hx_w1_wp1 : w.heap.size + 1 < w1.heap.size + 1 + 1 := (by omega)
          have hc_w1_wp1 := fun o => hb1.cell (p := ⟨w.heap.size + 1, o, none⟩) (by first | omega | (simp; done) | (simp; omega))
          have hf_w1_wp1 := fun o => hb1.frozen (p := ⟨w.heap.size + 1, o, none⟩) (by first | omega | (simp; done) | (simp; omega))
          have hz_w1_wp2 : w.heap.size + 1 + 1 < w1.heap.size := (by have hs := hb1.size; (try simp at hs); omega)
          have hy_w1_wp2 : w.heap.size + 1 + 1 < w1.heap.size + 1 := (by omega)
          have hx_w1_wp2 : w.heap.size + 1 + 1 < w1.heap.size + 1 + 1 := (by omega)
          have hc_w1_wp2 := fun o => hb1.cell (p := ⟨w.heap.size + 1 + 1, o, none⟩) (by first | omega | (simp; done) | (simp; omega))
          have hf_w1_wp2 := fun o => hb1.frozen (p := ⟨w.heap.size + 1 + 1, o, none⟩) (by first | omega | (simp; done) | (simp; omega))
          go_wp2
          refine calm 3 (by kernel_rfl) (by kernel_rfl) fun hG => ?_
          have hg_w := hG (w.heap.size) (by first | omega | (simp; done) | (simp; omega))
          have hg_wp1 := hG (w.heap.size + 1) (by first | omega | (simp; done) | (simp; omega))
          have hg_wp2 := hG (w.heap.size + 1 + 1) (by first | omega | (simp; done) | (simp; omega))
          have hg_w1 := hG (w1.heap.size) (by first | omega | (simp; done) | (simp; omega))
          clear hG
          simp only [List.take_succ_cons, List.take_zero, List.drop_succ_cons, List.drop_zero]
          repeat (go_big_quiet_step (first | fail))
          refine wpQuiet_nil ?_
          intro w2 hb_w2
          clear hg_w hg_wp1 hg_wp2 hg_w1
          have hs_w2 := hb_w2.size
          (try simp at hs_w2)
          have hz_w2_w : w.heap.size < w2.heap.size := (by have hs := hb_w2.size; (try simp at hs); omega)
          have hy_w2_w : w.heap.size < w2.heap.size + 1 := (by omega)
          have hx_w2_w : w.heap.size < w2.heap.size + 1 + 1 := (by omega)
          have hc_w2_w := fun o => hb_w2.cell (p := ⟨w.heap.size, o, none⟩) (by first | omega | (simp; done) | (simp; omega))
          have hf_w2_w := fun o => hb_w2.frozen (p := ⟨w.heap.size, o, none⟩) (by first | omega | (simp; done) | (simp; omega))
          have hz_w2_wp1 : w.heap.size + 1 < w2.heap.size := (by have hs := hb_w2.size; (try simp at hs); omega)
          have hy_w2_wp1 : w.heap.size + 1 < w2.heap.size + 1 := (by omega)
          have hx_w2_wp1 : w.heap.size + 1 < w2.heap.size + 1 + 1 := (by omega)
          have hc_w2_wp1 := fun o => hb_w2.cell (p := ⟨w.heap.size + 1, o, none⟩) (by first | omega | (simp; done) | (simp; omega))
          have hf_w2_wp1 := fun o => hb_w2.frozen (p := ⟨w.heap.size + 1, o, none⟩) (by first | omega | (simp; done) | (simp; omega))
          have hz_w2_wp2 : w.heap.size + 1 + 1 < w2.heap.size := (by have hs := hb_w2.size; (try simp at hs); omega)
          have hy_w2_wp2 : w.heap.size + 1 + 1 < w2.heap.size + 1 := (by omega)
          have hx_w2_wp2 : w.heap.size + 1 + 1 < w2.heap.size + 1 + 1 := (by omega)
          have hc_w2_wp2 := fun o => hb_w2.cell (p := ⟨w.heap.size + 1 + 1, o, none⟩) (by first | omega | (simp; done) | (simp; omega))
          have hf_w2_wp2 := fun o => hb_w2.frozen (p := ⟨w.heap.size + 1 + 1, o, none⟩) (by first | omega | (simp; done) | (simp; omega))
          have hz_w2_w1 : w1.heap.size < w2.heap.size := (by have hs := hb_w2.size; (try simp at hs); omega)
          have hy_w2_w1 : w1.heap.size < w2.heap.size + 1 := (by omega)
          have hx_w2_w1 : w1.heap.size < w2.heap.size + 1 + 1 := (by omega)
          have hc_w2_w1 := fun o => hb_w2.cell (p := ⟨w1.heap.size, o, none⟩) (by first | omega | (simp; done) | (simp; omega))
          have hf_w2_w1 := fun o => hb_w2.frozen (p := ⟨w1.heap.size, o, none⟩) (by first | omega | (simp; done) | (simp; omega))
          go_wp2
          go_roundw
          case rel =>
            refine ⟨k, lo + T, hi, X, Y, c, d, by omega, Lib.hid (by rw [H1'.out, ← H6.out]; omega), HC.out, by omega, by omega, d3, d2, Lib.hid (by rw [H5.out, HS.out, if_pos (by have := HC.out; omega), show m - lo - T = m - (lo + T) by omega]), ?_, rfl, ?_, ?_, ?_, (by repeat' (first | (with_reducible exact Below.refl _ _) | (with_reducible assumption) | (with_reducible refine bl_alloc ?_ _) | (with_reducible refine bl_drew ?_) | (with_reducible refine bl_drewN ?_) | (with_reducible refine bl_setCell ?_ ?_ _) | (with_reducible refine bl_call ?_ (by with_reducible assumption)) | omega | (simp; done) | (simp; omega))), ?_⟩
            · rw [show ((lo : Int) + hi) / 2 = ((lo + T : Nat) : Int) by have := H1'.out; omega]
            · unfold Pt; refine ⟨?_, ?_, ?_, ?_⟩ <;> simp [go_sem, *]
            · unfold Pt; refine ⟨?_, ?_, ?_, ?_⟩ <;> simp [go_sem, *]
            · unfold Pt; refine ⟨?_, ?_, ?_, ?_⟩ <;> simp [go_sem, *]
            · simp; omega
          case measure => have := H1'.out; have := TP.out; simp [intOf]; omega
        · have t6 : (m : Int) < ((lo : Int) + hi) / 2 := by have := H1'.out; omega
          have HC := Lib.hid hc
          clear hc
          go_wp2_with fail
          refine (CB.out _).mono ?_
          rintro e w1 ⟨rfl, hb1⟩
          have hs_w1 := hb1.size
          (try simp at hs_w1)
          have hz_w1_w : w.heap.size < w1.heap.size := (by have hs := hb1.size; (try simp at hs); omega)
          have hy_w1_w : w.heap.size < w1.heap.size + 1 := (by omega)
          have hx_w1_w : w.heap.size < w1.heap.size + 1 + 1 := (by omega)
          have hc_w1_w := fun o => hb1.cell (p := ⟨w.heap.size, o, none⟩) (by first | omega | (simp; done) | (simp; omega))
          have hf_w1_w := fun o => hb1.frozen (p := ⟨w.heap.size, o, none⟩) (by first | omega | (simp; done) | (simp; omega))
          have hz_w1_wp1 : w.heap.size + 1 < w1.heap.size := (by have hs := hb1.size; (try simp at hs); omega)
          have hy_w1_wp1 : w.heap.size + 1 < w1.heap.size + 1 := (by omega)
          have hx_w1_wp1 : w.heap.size + 1 < w1.heap.size + 1 + 1 := (by omega)
          have hc_w1_wp1 := fun o => hb1.cell (p := ⟨w.heap.size + 1, o, none⟩) (by first | omega | (simp; done) | (simp; omega))
          have hf_w1_wp1 := fun o => hb1.frozen (p := ⟨w.heap.size + 1, o, none⟩) (by first | omega | (simp; done) | (simp; omega))
          have hz_w1_wp2 : w.heap.size + 1 + 1 < w1.heap.size := (by have hs := hb1.size; (try simp at hs); omega)
          have hy_w1_wp2 : w.heap.size + 1 + 1 < w1.heap.size + 1 := (by omega)
          have hx_w1_wp2 : w.heap.size + 1 + 1 < w1.heap.size + 1 + 1 := (by omega)
          have hc_w1_wp2 := fun o => hb1.cell (p := ⟨w.heap.size + 1 + 1, o, none⟩) (by first | omega | (simp; done) | (simp; omega))
          have hf_w1_wp2 := fun o => hb1.frozen (p := ⟨w.heap.size + 1 + 1, o, none⟩) (by first | omega | (simp; done) | (simp; omega))
          go_wp2
          refine calm 3 (by kernel_rfl) (by kernel_rfl) fun hG => ?_
          have hg_w := hG (w.heap.size) (by first | omega | (simp; done) | (simp; omega))
          have hg_wp1 := hG (w.heap.size + 1) (by first | omega | (simp; done) | (simp; omega))
          have hg_wp2 := hG (w.heap.size + 1 + 1) (by first | omega | (simp; done) | (simp; omega))
          have hg_w1 := hG (w1.heap.size) (by first | omega | (simp; done) | (simp; omega))
          clear hG
          simp only [List.take_succ_cons, List.take_zero, List.drop_succ_cons, List.drop_zero]
          repeat (go_big_quiet_step (first | fail))
          refine wpQuiet_nil ?_
          intro w2 hb_w2
          clear hg_w hg_wp1 hg_wp2 hg_w1
          have hs_w2 := hb_w2.size
          (try simp at hs_w2)
          have hz_w2_w : w.heap.size < w2.heap.size := (by have hs := hb_w2.size; (try simp at hs); omega)
          have hy_w2_w : w.heap.size < w2.heap.size + 1 := (by omega)
          have hx_w2_w : w.heap.size < w2.heap.size + 1 + 1 := (by omega)
          have hc_w2_w := fun o => hb_w2.cell (p := ⟨w.heap.size, o, none⟩) (by first | omega | (simp; done) | (simp; omega))
          have hf_w2_w := fun o => hb_w2.frozen (p := ⟨w.heap.size, o, none⟩) (by first | omega | (simp; done) | (simp; omega))
          have hz_w2_wp1 : w.heap.size + 1 < w2.heap.size := (by have hs := hb_w2.size; (try simp at hs); omega)
          have hy_w2_wp1 : w.heap.size + 1 < w2.heap.size + 1 := (by omega)
          have hx_w2_wp1 : w.heap.size + 1 < w2.heap.size + 1 + 1 := (by omega)
          have hc_w2_wp1 := fun o => hb_w2.cell (p := ⟨w.heap.size + 1, o, none⟩) (by first | omega | (simp; done) | (simp; omega))
          have hf_w2_wp1 := fun o => hb_w2.frozen (p := ⟨w.heap.size + 1, o, none⟩) (by first | omega | (simp; done) | (simp; omega))
          have hz_w2_wp2 : w.heap.size + 1 + 1 < w2.heap.size := (by have hs := hb_w2.size; (try simp at hs); omega)
          have hy_w2_wp2 : w.heap.size + 1 + 1 < w2.heap.size + 1 := (by omega)
          have hx_w2_wp2 : w.heap.size + 1 + 1 < w2.heap.size + 1 + 1 := (by omega)
          have hc_w2_wp2 := fun o => hb_w2.cell (p := ⟨w.heap.size + 1 + 1, o, none⟩) (by first | omega | (simp; done) | (simp; omega))
          have hf_w2_wp2 := fun o => hb_w2.frozen (p := ⟨w.heap.size + 1 + 1, o, none⟩) (by first | omega | (simp; done) | (simp; omega))
          have hz_w2_w1 : w1.heap.size < w2.heap.size := (by have hs := hb_w2.size; (try simp at hs); omega)
          have hy_w2_w1 : w1.heap.size < w2.heap.size + 1 := (by omega)
          have hx_w2_w1 : w1.heap.size < w2.heap.size + 1 + 1 := (by omega)
          have hc_w2_w1 := fun o => hb_w2.cell (p := ⟨w1.heap.size, o, none⟩) (by first | omega | (simp; done) | (simp; omega))
          have hf_w2_w1 := fun o => hb_w2.frozen (p := ⟨w1.heap.size, o, none⟩) (by first | omega | (simp; done) | (simp; omega))
          go_wp2
          go_roundw
          case rel =>
            refine ⟨k, lo, lo + T, a, b, X, Y, by omega, Lib.hid (by rw [← H6.out]), by omega, by have := HC.out; omega, by have := H1'.out; omega, d1, d3, Lib.hid (by rw [H5.out, HS.out, if_neg (by have := HC.out; omega)]), rfl, ?_, ?_, ?_, ?_, (by repeat' (first | (with_reducible exact Below.refl _ _) | (with_reducible assumption) | (with_reducible refine bl_alloc ?_ _) | (with_reducible refine bl_drew ?_) | (with_reducible refine bl_drewN ?_) | (with_reducible refine bl_setCell ?_ ?_ _) | (with_reducible refine bl_call ?_ (by with_reducible assumption)) | omega | (simp; done) | (simp; omega))), ?_⟩
            · rw [show ((lo : Int) + hi) / 2 = ((lo + T : Nat) : Int) by have := H1'.out; omega]
            · unfold Pt; refine ⟨?_, ?_, ?_, ?_⟩ <;> simp [go_sem, *]
            · unfold Pt; refine ⟨?_, ?_, ?_, ?_⟩ <;> simp [go_sem, *]
            · unfold Pt; refine ⟨?_, ?_, ?_, ?_⟩ <;> simp [go_sem, *]
            · simp; omega
          case measure => have := H1'.out; have := TP.out; simp [intOf]; omega

set_option maxRecDepth 100000 in
set_option maxHeartbeats 1000000 in
theorem dir_a (m : Int) (p : Nat) (w : World) (h1 : -4611686018427387904 ≤ m) (h2 : m ≤ 4611686018427387904) (hp : (p : Int) = m % 4194304) (hc : p ≤ 524288) :
    Calls Try.prog 133 #[.int .i64 m] w fun e w' => e = .returned (.agg #[.int .i64 (fstX p), .int .i64 (fstY p)]) ∧ Below w.heap.size w w' := by
  have el : m - 4194304 * (m / 4194304) = p := by omega
  have b1 : -4611686018427387904 - 4194304 ≤ 4194304 * (m / 4194304) := by omega
  have b2 : 4194304 * (m / 4194304) ≤ 4611686018427387904 := by omega
  have C := Lib.hid (fun w => floor_any m 4194304 w (by omega) (by omega) (by omega) (by omega))
  have CF := Lib.hid (fun w => first_any p w hc)
  have c1 : m - 4194304 * (m / 4194304) < 1048576 := by omega
  have c2 : m - 4194304 * (m / 4194304) ≤ 524288 := by omega
  have c0 : 0 ≤ m - 4194304 * (m / 4194304) := by omega
  have EL := Lib.hid el
  generalize m / 4194304 = f at *
  generalize fstX p = X at *
  generalize fstY p = Y at *
  clear hp hc el
  go_enter Try.func133, Try.ntmps133
  go_wp2_with fail
  refine (C.out _).mono ?_
  rintro e w' ⟨rfl, rfl⟩
  go_wp2_with fail
  refine ((show ∀ w, Calls Try.prog 141 #[.int .i64 (m - 4194304 * f)] w _ from by rw [EL.out]; exact CF.out) _).mono ?_
  rintro e w1 ⟨rfl, hb_w1⟩
  have hs_w1 := hb_w1.size
  (try simp at hs_w1)
  have hz_w1_w : w.heap.size < w1.heap.size := (by have hs := hb_w1.size; (try simp at hs); omega)
  have hy_w1_w : w.heap.size < w1.heap.size + 1 := (by omega)
  have hx_w1_w : w.heap.size < w1.heap.size + 1 + 1 := (by omega)
  have hc_w1_w := fun o => hb_w1.cell (p := ⟨w.heap.size, o, none⟩) (by first | omega | (simp; done) | (simp; omega))
  have hf_w1_w := fun o => hb_w1.frozen (p := ⟨w.heap.size, o, none⟩) (by first | omega | (simp; done) | (simp; omega))
  go_wp2
  refine bodyPost_ret (by simp [results, Try.results133, go_sem, *]; first | done | rfl) rfl ?_
  exact ⟨rfl, (by repeat' (first | (with_reducible exact Below.refl _ _) | (with_reducible assumption) | (with_reducible refine bl_alloc ?_ _) | (with_reducible refine bl_drew ?_) | (with_reducible refine bl_drewN ?_) | (with_reducible refine bl_setCell ?_ ?_ _) | (with_reducible refine bl_call ?_ (by with_reducible assumption)) | omega | (simp; done) | (simp; omega)))⟩
end Go.Proofs.Ytjgmjnjpgdadhaa
