/- SmallChange: the reference's walk. -/
import Derived.Test.YtjbfaaolfonmaaaGreatKChange
import Derived.Test.YtjbfaaolfonmaaaGreatRChange
namespace Go.Proofs.YtjbfaaolfonmaaaGreat
open Go Go.Sort Go.RowKit

set_option maxRecDepth 100000 in
set_option maxHeartbeats 4000000 in
theorem rSmallChange_any (p q : Option Addr) (n m cp cq : Nat) (Z Y : Nat → Nat → Int) (hn : n ≤ 1000000) (hm : m ≤ 1000000) (w : World) (hz : Zs p n 2 Z w) (hy : Zs q m 1 Y w) :
    Calls Tryz.prog 27 #[.slice p n cp, .slice q m cq] w fun E w' => E = .returned (smallC (Z · 0) (Z · 1) (Y · 0) n m).ret ∧ Below w.heap.size w w' := by
  have CH := fun w' (h : Below w.heap.size w w') => rchangeOf_any p q n m cp cq Z Y hn hm w' (hz.bel h) (hy.bel h)
  unfold ChgRet at CH
  generalize (Z · 0) = r at *
  generalize (Z · 1) = s at *
  generalize (Y · 0) = v at *
  unfold Fit.ret
  by_cases hq : chgQ r s v n m = 0
  · have eA : chgA r s v n m = (sums r s v n).a := by unfold chgA; rw [if_pos hq]
    have eB : chgB r s v n m = (sums r s v n).b := by unfold chgB; rw [if_pos hq]
    have eD : chgD r s v n m = (sums r s v n).den := by unfold chgD; rw [if_pos hq]
    obtain ⟨rfl, _, h20, hok, hd⟩ := chg_zero hq
    obtain ⟨⟨a0, a1⟩, ⟨b0, b1⟩, d1⟩ := chg_bd h20 hok
    rw [eA, eB, eD, hq] at CH
    have SA := Lib.hid (fun w => rsmall_any (sums r s v m).a (sums r s v m).den hd (by omega) (by omega) (by omega) w)
    have SB := Lib.hid (fun w => rsmall_any (sums r s v m).b (sums r s v m).den hd (by omega) (by omega) (by omega) w)
    unfold smallRet at SA SB
    unfold smallC
    rw [if_pos hq]
    generalize (sums r s v m).a = A at *
    generalize (sums r s v m).b = B at *
    generalize (sums r s v m).den = D at *
    generalize lowN A D = an at *
    generalize lowD A D = ad at *
    generalize lowN B D = bn at *
    generalize lowD B D = bd at *
    have CH := Lib.hid CH
    clear eA eB eD hq hok hz hy a0 a1 b0 b1 d1 hd h20
    generalize smallQ A D = t1 at *
    generalize smallQ B D = t2 at *
    cases t1
    case false =>
      rw [if_neg (by simp)] at SA ⊢
      cases t2
      case false =>
        rw [if_neg (by simp)] at SB
        go_enter Tryz.func27, Tryz.ntmps27
        go_wp2_with fail
        refine (CH.out _ blw).mono ?_
        rintro e w1 ⟨rfl, hb_w1⟩
        have hs_w1 := hb_w1.size
        (try simp at hs_w1)
        obtain ⟨hz_w1_w, hy_w1_w, hx_w1_w, hc_w1_w, hf_w1_w⟩ := bl5 hb_w1 (w.heap.size)
        go_wp2_with fail
        refine (SA.out _).mono ?_
        rintro e w2 ⟨rfl, hb_w2⟩
        have hs_w2 := hb_w2.size
        (try simp at hs_w2)
        obtain ⟨hz_w2_w, hy_w2_w, hx_w2_w, hc_w2_w, hf_w2_w⟩ := bl5 hb_w2 (w.heap.size)
        obtain ⟨hz_w2_w1, hy_w2_w1, hx_w2_w1, hc_w2_w1, hf_w2_w1⟩ := bl5 hb_w2 (w1.heap.size)
        go_wp2_with fail
        refine (SB.out _).mono ?_
        rintro e w3 ⟨rfl, hb_w3⟩
        have hs_w3 := hb_w3.size
        (try simp at hs_w3)
        obtain ⟨hz_w3_w, hy_w3_w, hx_w3_w, hc_w3_w, hf_w3_w⟩ := bl5 hb_w3 (w.heap.size)
        repeat' (first | go_values | go_skip | go_guarded | go_step | go_upon | (simp only []; go_simp))
        (with_reducible show bodyPost _ _ _ _ _ _); refine bodyPost_ret (by simp [results, Tryz.results27, go_sem, *]; first | done | rfl) rfl ?_
        exact ⟨rfl, blw⟩
      case true =>
        rw [if_pos rfl] at SB
        go_enter Tryz.func27, Tryz.ntmps27
        go_wp2_with fail
        refine (CH.out _ blw).mono ?_
        rintro e w1 ⟨rfl, hb_w1⟩
        have hs_w1 := hb_w1.size
        (try simp at hs_w1)
        obtain ⟨hz_w1_w, hy_w1_w, hx_w1_w, hc_w1_w, hf_w1_w⟩ := bl5 hb_w1 (w.heap.size)
        go_wp2_with fail
        refine (SA.out _).mono ?_
        rintro e w2 ⟨rfl, hb_w2⟩
        have hs_w2 := hb_w2.size
        (try simp at hs_w2)
        obtain ⟨hz_w2_w, hy_w2_w, hx_w2_w, hc_w2_w, hf_w2_w⟩ := bl5 hb_w2 (w.heap.size)
        obtain ⟨hz_w2_w1, hy_w2_w1, hx_w2_w1, hc_w2_w1, hf_w2_w1⟩ := bl5 hb_w2 (w1.heap.size)
        go_wp2_with fail
        refine (SB.out _).mono ?_
        rintro e w3 ⟨rfl, hb_w3⟩
        have hs_w3 := hb_w3.size
        (try simp at hs_w3)
        obtain ⟨hz_w3_w, hy_w3_w, hx_w3_w, hc_w3_w, hf_w3_w⟩ := bl5 hb_w3 (w.heap.size)
        repeat' (first | go_values | go_skip | go_guarded | go_step | go_upon | (simp only []; go_simp))
        (with_reducible show bodyPost _ _ _ _ _ _); refine bodyPost_ret (by simp [results, Tryz.results27, go_sem, *]; first | done | rfl) rfl ?_
        exact ⟨rfl, blw⟩
    case true =>
      rw [if_pos rfl] at SA
      cases t2
      case false =>
        rw [if_neg (by simp)] at SB ⊢
        go_enter Tryz.func27, Tryz.ntmps27
        go_wp2_with fail
        refine (CH.out _ blw).mono ?_
        rintro e w1 ⟨rfl, hb_w1⟩
        have hs_w1 := hb_w1.size
        (try simp at hs_w1)
        obtain ⟨hz_w1_w, hy_w1_w, hx_w1_w, hc_w1_w, hf_w1_w⟩ := bl5 hb_w1 (w.heap.size)
        go_wp2_with fail
        refine (SA.out _).mono ?_
        rintro e w2 ⟨rfl, hb_w2⟩
        have hs_w2 := hb_w2.size
        (try simp at hs_w2)
        obtain ⟨hz_w2_w, hy_w2_w, hx_w2_w, hc_w2_w, hf_w2_w⟩ := bl5 hb_w2 (w.heap.size)
        obtain ⟨hz_w2_w1, hy_w2_w1, hx_w2_w1, hc_w2_w1, hf_w2_w1⟩ := bl5 hb_w2 (w1.heap.size)
        go_wp2_with fail
        refine (SB.out _).mono ?_
        rintro e w3 ⟨rfl, hb_w3⟩
        have hs_w3 := hb_w3.size
        (try simp at hs_w3)
        obtain ⟨hz_w3_w, hy_w3_w, hx_w3_w, hc_w3_w, hf_w3_w⟩ := bl5 hb_w3 (w.heap.size)
        repeat' (first | go_values | go_skip | go_guarded | go_step | go_upon | (simp only []; go_simp))
        (with_reducible show bodyPost _ _ _ _ _ _); refine bodyPost_ret (by simp [results, Tryz.results27, go_sem, *]; first | done | rfl) rfl ?_
        exact ⟨rfl, blw⟩
      case true =>
        rw [if_pos rfl] at SB
        rw [if_pos (by simp)]
        go_enter Tryz.func27, Tryz.ntmps27
        go_wp2_with fail
        refine (CH.out _ blw).mono ?_
        rintro e w1 ⟨rfl, hb_w1⟩
        have hs_w1 := hb_w1.size
        (try simp at hs_w1)
        obtain ⟨hz_w1_w, hy_w1_w, hx_w1_w, hc_w1_w, hf_w1_w⟩ := bl5 hb_w1 (w.heap.size)
        go_wp2_with fail
        refine (SA.out _).mono ?_
        rintro e w2 ⟨rfl, hb_w2⟩
        have hs_w2 := hb_w2.size
        (try simp at hs_w2)
        obtain ⟨hz_w2_w, hy_w2_w, hx_w2_w, hc_w2_w, hf_w2_w⟩ := bl5 hb_w2 (w.heap.size)
        obtain ⟨hz_w2_w1, hy_w2_w1, hx_w2_w1, hc_w2_w1, hf_w2_w1⟩ := bl5 hb_w2 (w1.heap.size)
        go_wp2_with fail
        refine (SB.out _).mono ?_
        rintro e w3 ⟨rfl, hb_w3⟩
        have hs_w3 := hb_w3.size
        (try simp at hs_w3)
        obtain ⟨hz_w3_w, hy_w3_w, hx_w3_w, hc_w3_w, hf_w3_w⟩ := bl5 hb_w3 (w.heap.size)
        obtain ⟨hz_w3_w2, hy_w3_w2, hx_w3_w2, hc_w3_w2, hf_w3_w2⟩ := bl5 hb_w3 (w2.heap.size)
        repeat' (first | go_values | go_skip | go_guarded | go_step | go_upon | (simp only []; go_simp))
        (with_reducible show bodyPost _ _ _ _ _ _); refine bodyPost_ret (by simp [results, Tryz.results27, go_sem, *]; first | done | rfl) rfl ?_
        exact ⟨rfl, blw⟩
  · have eA : chgA r s v n m = 0 := by unfold chgA; rw [if_neg hq]
    have eB : chgB r s v n m = 0 := by unfold chgB; rw [if_neg hq]
    have eD : chgD r s v n m = 0 := by unfold chgD; rw [if_neg hq]
    rw [eA, eB, eD] at CH
    unfold smallC
    rw [if_neg hq]
    have hq1 : (chgQ r s v n m != 0) = true := by simpa using hq
    generalize chgQ r s v n m = Q at *
    have CH := Lib.hid CH
    clear eA eB eD hq hz hy
    go_enter Tryz.func27, Tryz.ntmps27
    go_wp2_with fail
    refine (CH.out _ blw).mono ?_
    rintro e w1 ⟨rfl, hb_w1⟩
    have hs_w1 := hb_w1.size
    (try simp at hs_w1)
    obtain ⟨hz_w1_w, hy_w1_w, hx_w1_w, hc_w1_w, hf_w1_w⟩ := bl5 hb_w1 (w.heap.size)
    repeat' (first | go_values | go_skip | go_guarded | go_step | go_upon | (simp only []; go_simp))
    (with_reducible show bodyPost _ _ _ _ _ _); refine bodyPost_ret (by simp [results, Tryz.results27, go_sem, *]; first | done | rfl) rfl ?_
    exact ⟨rfl, blw⟩
end Go.Proofs.YtjbfaaolfonmaaaGreat
