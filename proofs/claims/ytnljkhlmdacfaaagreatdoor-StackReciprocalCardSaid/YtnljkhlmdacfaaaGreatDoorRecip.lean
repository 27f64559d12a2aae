/- StackReciprocal: the walk. -/
import Derived.Test.YtnljkhlmdacfaaaGreatDoorKShr
import Derived.Test.YtnljkhlmdacfaaaGreatDoorKStk
namespace Go.Proofs.YtnljkhlmdacfaaaGreatDoor
open Go Go.Sort Go.RowKit

def HidL (A : Ask) (k : Nat) : Prop := ∀ j (hj : j < A.ls.length), j < k → (A.ls[j]).lo = 0
theorem hidl_zero (A : Ask) : HidL A 0 := fun j _ hj => absurd hj (by omega)
theorem hidl_next {A : Ask} {k : Nat} (h : HidL A k) {b : Box} (hb : A.ls[k]? = some b) (c : b.lo = 0) : HidL A (k + 1) := fun j hj hk => by
  by_cases e : j = k
  · subst e
    have : A.ls[j] = b := by rw [List.getElem?_eq_getElem hj] at hb; exact Option.some.inj hb
    rw [this]; exact c
  · exact h j hj (by omega)
theorem hidl_all {A : Ask} {k : Nat} (hk : A.ls.length ≤ k) (h : HidL A k) : ∀ b ∈ A.ls, b.lo = 0 := fun b hb => by
  obtain ⟨j, hj, rfl⟩ := List.getElem_of_mem hb
  exact h j hj (by omega)

set_option maxRecDepth 100000 in
set_option maxHeartbeats 8000000 in
theorem recip_any (AW : Awake3) (A : Ask) (hp : A.pa = none → A.ls.length = 0 ∧ A.cap = 0) (w : World) (hS : Std w) (hr : Row A.pa A.ls w) :
    Calls Tryz.prog 11 #[A.val] w fun e w' => e = .returned (.bool true) ∧ Below w.heap.size w w' := by
  have AW := Lib.hid AW
  have FW := Lib.hid (fun w => Few_any A w)
  have ST := Lib.hid hS
  clear hS
  by_cases hn : A.ls.length ≤ 42
  case neg =>
    have HN := Lib.hid hn
    clear hr hp hn
    unfold Ask.val at FW ⊢
    generalize A.ls.length = len at *
    go_enter Tryz.func11, Tryz.ntmps11
    go_wp2_with fail
    refine (AW.out _ (ST.out.below blw)).mono ?_
    rintro e w1 ⟨rfl, hb_w1⟩
    have k_w1_w := bl5 hb_w1 (w.heap.size)
    go_wp2_with fail
    refine (FW.out _).mono ?_
    rintro e w2 ⟨t, rfl, ht, hb_w2⟩
    obtain rfl : t = false := by cases t; · rfl
                                 · exact absurd (ht rfl) HN.out
    have k_w2_w := bl5 hb_w2 (w.heap.size)
    repeat' (first | go_values | go_skip | go_guarded | go_step | go_upon | (simp only []; go_simp))
    go_ret
    exact ⟨rfl, blw⟩
  have hlen := hn
  have CP := Lib.hid (fun w hr => CopyAsk_any A hp (by omega) w hr)
  have OS := Lib.hid (fun g c w hr => OtherSide_any A g c w hr)
  have SH := Lib.hid (fun g c w hr hg => SharesOf_at A g c w hr hg)
  have HR := Lib.hid hr
  clear hr hp hn
  unfold zeroAsk at OS
  unfold Ask.mv at CP OS SH
  unfold other at OS
  unfold Ask.val at CP FW OS SH ⊢
  simp only [List.length_reverse] at CP OS
  go_enter Tryz.func11, Tryz.ntmps11
  go_wp2_with fail
  refine (AW.out _ (ST.out.below blw)).mono ?_
  rintro e w1 ⟨rfl, hb_w1⟩
  clear AW ST
  have k_w1_w := bl5 hb_w1 (w.heap.size)
  go_wp2_with fail
  refine (FW.out _).mono ?_
  rintro e w2 ⟨t, rfl, ht, hb_w2⟩
  clear ht
  have k_w2_w := bl5 hb_w2 (w.heap.size)
  cases t
  · repeat' (first | go_values | go_skip | go_guarded | go_step | go_upon | (simp only []; go_simp))
    go_ret
    exact ⟨rfl, blw⟩
  go_wp2_with fail
  refine (CP.out _ (HR.out.bel blw)).mono ?_
  rintro e w3 ⟨g3, c3, rfl, hr3, hl3, hh3, hb_w3⟩
  have k_w3_w := bl5 hb_w3 (w.heap.size)
  go_wp2_with fail
  refine (OS.out g3 c3 _ hr3).mono ?_
  rintro e w4 ⟨hE, hb_w4⟩
  clear hr3
  have k_w4_w := bl5 hb_w4 (w.heap.size)
  rcases hE with ⟨q, hq, rfl⟩ | ⟨oA, oq, p, c4, rfl, hr4, hl4, hh4⟩
  · have hq1 : (q != 0) = true := by simpa using hq
    clear hq
    go_wp2_with fail
    refine (CP.out _ (HR.out.bel blw)).mono ?_
    rintro e w5 ⟨g5, c5, rfl, hr5, hl5, hh5, hb_w5⟩
    have k_w5_w := bl5 hb_w5 (w.heap.size)
    have k_w5_w4 := bl5 hb_w5 (w4.heap.size)
    go_wp2_with fail
    refine (SH.out g5 c5 _ hr5 hh5).mono ?_
    rintro e w6 ⟨hE, hb_w6⟩
    clear hr5
    have k_w6_w := bl5 hb_w6 (w.heap.size)
    have k_w6_w4 := bl5 hb_w6 (w4.heap.size)
    obtain ⟨V, q5, rfl⟩ : ∃ (V : Shr) (q5 : Int), e = .returned (.tuple #[V.val, .int .i64 q5]) := by
      rcases hE with ⟨q5, _, rfl⟩ | ⟨_, rfl⟩
      · exact ⟨⟨0, 0, 0, 0, 0, 0⟩, q5, rfl⟩
      · exact ⟨_, 0, rfl⟩
    clear hE
    unfold Shr.val
    repeat' (first | go_values | go_skip | go_guarded | go_step | go_upon | (simp only []; go_simp))
    go_ret
    exact ⟨rfl, blw⟩
  go_wp2_with fail
  refine (CP.out _ (HR.out.bel blw)).mono ?_
  rintro e w5 ⟨g5, c5, rfl, hr5, hl5, hh5, hb_w5⟩
  have k_w5_w := bl5 hb_w5 (w.heap.size)
  have k_w5_w4 := bl5 hb_w5 (w4.heap.size)
  go_wp2_with fail
  refine (SH.out g5 c5 _ hr5 hh5).mono ?_
  rintro e w6 ⟨hE, hb_w6⟩
  clear hr5
  have k_w6_w := bl5 hb_w6 (w.heap.size)
  have k_w6_w4 := bl5 hb_w6 (w4.heap.size)
  rcases hE with ⟨q, hq, rfl⟩ | ⟨sA, rfl⟩
  · have hq1 : (q != 0) = true := by simpa using hq
    clear hq
    unfold zeroSix
    repeat' (first | go_values | go_skip | go_guarded | go_step | go_upon | (simp only []; go_simp))
    go_ret
    exact ⟨rfl, blw⟩
  unfold Shr.val
  have RC := Lib.hid (fun k => recip_shr oq (some p) c4 sA k)
  have CP2 := Lib.hid (fun (w : World) hr => CopyAsk_any (other A (some p) c4) (fun h => by cases h) (by show A.ls.reverse.length ≤ 1000; rw [List.length_reverse]; have := oA.len; omega) w hr)
  have SH2 := Lib.hid (fun g c w hr hg => SharesOf_at (other A (some p) c4) g c w hr hg)
  have RC : ∀ s u : Shr, s = shr A → (ShrOk (other A (some p) c4) → u = shr (other A (some p) c4) → (decide (max s.t0 u.t0 ≤ min s.t1 u.t1) = true ∧ ((∀ b ∈ A.ls, b.lo = 0) → decide (max s.r0 u.r0 ≤ min s.r1 u.r1) = true))) := by
    rintro s u rfl k rfl
    obtain ⟨a, b⟩ := RC.out k
    exact ⟨decide_eq_true a, fun h => decide_eq_true (b h)⟩
  generalize hs : shr A = s at *
  generalize hu : shr (other A (some p) c4) = u at *
  have RC := Lib.hid (fun k => RC s u rfl k rfl)
  generalize hO : ShrOk (other A (some p) c4) = O at *
  clear hs hu hO
  unfold Ask.mv other Ask.val at CP2 SH2
  simp only [List.length_reverse] at SH2 CP2
  go_wp2_with fail
  refine (CP2.out _ (hr4.bel (show Below w4.heap.size w4 _ from blw))).mono ?_
  rintro e w7 ⟨g7, c7, rfl, hr7, hl7, hh7, hb_w7⟩
  have k_w7_w := bl5 hb_w7 (w.heap.size)
  have k_w7_w4 := bl5 hb_w7 (w4.heap.size)
  have k_w7_w6 := bl5 hb_w7 (w6.heap.size)
  go_wp2_with fail
  refine (SH2.out g7 c7 _ hr7 hh7).mono ?_
  rintro e w8 ⟨hE, hb_w8⟩
  clear hr7
  have k_w8_w := bl5 hb_w8 (w.heap.size)
  have k_w8_w4 := bl5 hb_w8 (w4.heap.size)
  have k_w8_w6 := bl5 hb_w8 (w6.heap.size)
  rcases hE with ⟨q, hq, rfl⟩ | ⟨sO, rfl⟩
  · have hq1 : (q != 0) = true := by simpa using hq
    clear hq
    unfold zeroSix
    repeat' (first | go_values | go_skip | go_guarded | go_step | go_upon | (simp only []; go_simp))
    go_ret
    exact ⟨rfl, blw⟩
  obtain ⟨k1, k2⟩ := RC.out sO
  unfold Shr.val
  have OV1 := Lib.hid (fun w => overlap_any s.t0 s.t1 u.t0 u.t1 w)
  have OV2 := fun w => overlap_any s.r0 s.r1 u.r0 u.r1 w
  rw [k1] at OV1
  have K2 := Lib.hid k2
  clear k1 k2 RC SH SH2 CP CP2
  generalize decide (max s.r0 u.r0 ≤ min s.r1 u.r1) = ov at *
  have OV2 := Lib.hid OV2
  go_wp2_with fail
  refine (OV1.out _).mono ?_
  rintro e w9 ⟨rfl, hb_w9⟩
  obtain ⟨hz_w9_w, hy_w9_w, hx_w9_w, hc_w9_w, hf_w9_w⟩ := bl5 hb_w9 (w.heap.size)
  obtain ⟨hz_w9_w6, hy_w9_w6, hx_w9_w6, hc_w9_w6, hf_w9_w6⟩ := bl5 hb_w9 (w6.heap.size)
  obtain ⟨hz_w9_w8, hy_w9_w8, hx_w9_w8, hc_w9_w8, hf_w9_w8⟩ := bl5 hb_w9 (w8.heap.size)
  have y6 : w9.cell? ⟨w.heap.size, 6, none⟩ = some (.slice A.pa A.ls.length A.cap) := keepC hb_w9 (by go_simp)
  have s0 : w9.cell? ⟨w6.heap.size, 0, none⟩ = some (.int .i64 s.r0) := keepC hb_w9 (by go_simp)
  have s1 : w9.cell? ⟨w6.heap.size, 1, none⟩ = some (.int .i64 s.r1) := keepC hb_w9 (by go_simp)
  have u0 : w9.cell? ⟨w8.heap.size, 0, none⟩ = some (.int .i64 u.r0) := keepC hb_w9 (by go_simp)
  have u1 : w9.cell? ⟨w8.heap.size, 1, none⟩ = some (.int .i64 u.r1) := keepC hb_w9 (by go_simp)
  have hv : Below w.heap.size w w9 := blw
  have HB := Lib.hid hv
  clear hc_w9_w hc_w9_w6 hc_w9_w8 hf_w9_w hf_w9_w6 hf_w9_w8
  go_wp2_with fail
  go_loopw [9] (fun i wr => ∃ k : Nat, k ≤ A.ls.length ∧ i = .int .i64 k ∧ wr = w9 ∧ HidL A k) (fun i _ => A.ls.length - (intOf i).toNat)
  case atStart => exact ⟨0, by omega, by first | trivial | rfl, by first | trivial | rfl, hidl_zero A⟩
  case round =>
    obtain ⟨k, hk, rfl, hwr, HF⟩ := hrel
    subst hwr
    by_cases hlt : k < A.ls.length
    · obtain ⟨b, hb⟩ : ∃ b, A.ls[k]? = some b := ⟨_, List.getElem?_eq_getElem hlt⟩
      obtain ⟨a, ha, hal, hE⟩ := HR.out.get k b hb
      rw [ha] at y6
      have hE := boxAt.bel hE HB.out hal
      obtain ⟨E1, E2, E3, E4, E5⟩ := hE
      have hlt2 : (k : Int) < A.ls.length := by omega
      have HN := Lib.hid (fun c => hidl_next HF hb c)
      clear HF hb
      by_cases c : b.lo = 0
      · have HC := Lib.hid c
        rw [c] at E5
        clear c
        go_wp2_with fail
        go_roundw
        case rel => exact ⟨k + 1, by omega, by first | (simp; done) | (simp; omega), by first | trivial | rfl, HN.out HC.out⟩
        case measure => simp [intOf]; omega
      · have c2 : (b.lo != 0) = true := by simpa using c
        go_wp2
        go_ret
        exact ⟨rfl, HB.out⟩
    · obtain rfl : k = A.ls.length := by omega
      have hlt2 : ¬ (A.ls.length : Int) < A.ls.length := by omega
      have kk := K2.out (hidl_all (Nat.le_refl _) HF)
      subst kk
      clear HF
      go_wp2_with fail
      refine (OV2.out _).mono ?_
      rintro e w10 ⟨rfl, hb_w10⟩
      have hv : Below w.heap.size w w10 := Below.trans HB.out (hb_w10.mono (by have := HB.out.size; omega))
      go_wp2
      go_ret
      exact ⟨rfl, hv⟩
end Go.Proofs.YtnljkhlmdacfaaaGreatDoor
