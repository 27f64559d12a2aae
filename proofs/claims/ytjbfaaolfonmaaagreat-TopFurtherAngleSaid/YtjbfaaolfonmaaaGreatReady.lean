/- What the statement on a further setting begins with; copies of two boxes. -/
import Derived.Test.YtjbfaaolfonmaaaGreatExample
import Derived.Test.YtjbfaaolfonmaaaGreatCopyAll
import Derived.Test.YtjbfaaolfonmaaaGreatFirst
import Derived.Test.YtjbfaaolfonmaaaGreatTask
namespace Go.Proofs.YtjbfaaolfonmaaaGreat
open Go Go.Sort Go.RowKit

theorem run_eq_six (w : World) : (binOp .eql 32 (.agg #[.int .i64 (-6), .int .i64 6]) (.agg #[.int .i64 (-6), .int .i64 6])).run Tryz.prog w = .ok (.bool true) w := by kernel_rfl
set_option maxRecDepth 100000 in
set_option maxHeartbeats 4000000 in
theorem fitReady_any (w : World) : Calls Tryz.prog 69 #[] w fun E w' => E = .returned (.bool true) ∧ Below w.heap.size w w' := by
  have eq6 := run_eq_six
  go_enter Tryz.func69, Tryz.ntmps69
  go_wp2_with fail
  refine (setting_any _).mono ?_
  rintro e w1 ⟨rfl, hb_w1⟩
  go_wp2_with fail
  refine (half_any _).mono ?_
  rintro e w2 ⟨rfl, hR, hb_w2⟩
  go_wp2_with fail
  refine (glass_any _).mono ?_
  rintro e w3 ⟨rfl, hb_w3⟩
  have hR := hR.bel hb_w3
  go_wp2_with fail
  refine (predicted_ex _ _ hR).mono ?_
  rintro e w4 ⟨rfl, hb_w4⟩
  clear hR
  repeat' (first | go_values | go_skip | go_guarded | go_step | go_upon | (simp only []; go_simp))
  (with_reducible show bodyPost _ _ _ _ _ _); refine bodyPost_ret (by simp [results, Tryz.results69, go_sem, *]; first | done | rfl) rfl ?_
  exact ⟨rfl, blw⟩
/-- What a copy of two boxes is. -/
def PairRet (A B : List Box) (w : World) (E : Ending) (w' : World) : Prop := ∃ g cg h ch, E = .returned (pairV (some ⟨g, 0, none⟩) (some ⟨h, 0, none⟩) A B cg ch) ∧ Row (some ⟨g, 0, none⟩) A w' ∧ Row (some ⟨h, 0, none⟩) B w' ∧ Below w.heap.size w w'
set_option maxHeartbeats 4000000 in
theorem copyPair_any (A B : List Box) (pa pb : Option Addr) (ca cb : Nat) (ha : pa = none → A.length = 0 ∧ ca = 0) (hb : pb = none → B.length = 0 ∧ cb = 0) (na : A.length ≤ 1000) (nb : B.length ≤ 1000) (w : World) (ra : Row pa A w) (rb : Row pb B w) :
    Calls Tryz.prog 41 #[pairV pa pb A B ca cb] w fun E w' => PairRet A B w E w' := by
  have CA := Lib.hid (fun w' (h : Below w.heap.size w w') => copy_all pa A ca ha na w' (ra.bel h))
  have CB := Lib.hid (fun w' (h : Below w.heap.size w w') => copy_all pb B cb hb nb w' (rb.bel h))
  unfold pairV PairRet
  clear ra rb ha hb na nb
  unfold pairV
  obtain ⟨n, hn⟩ : ∃ n, A.length = n := ⟨_, rfl⟩
  obtain ⟨m, hm⟩ : ∃ n, B.length = n := ⟨_, rfl⟩
  rw [hn] at CA ⊢
  rw [hm] at CB ⊢
  clear hn hm
  go_enter Tryz.func41, Tryz.ntmps41
  go_wp2_with fail
  (go_region_held3 (fun w' => w'.cell? ⟨w.heap.size, 0, none⟩ = some (.slice pa n ca) ∧ w'.cell? ⟨w.heap.size, 1, none⟩ = some (.slice pb m cb)  ) (simp [*, go_sem])
      (first
        | (go_at_call 18; (with_reducible refine (CA.out _ ?_).mono ?_); (· exact blw); rintro E w1 ⟨g, cg, rfl, ho, hb_w1⟩; have lo1 := ho.lo; (try simp at lo1); have hR := Lib.hid ho; clear ho; obtain ⟨hz_w1_w, hy_w1_w, hx_w1_w, hc_w1_w, hf_w1_w⟩ := bl5 hb_w1 (w.heap.size); obtain ⟨hz_w1_wp1, hy_w1_wp1, hx_w1_wp1, hc_w1_wp1, hf_w1_wp1⟩ := bl5 hb_w1 (w.heap.size + 1))
        | (go_at_call 18; (with_reducible refine (CB.out _ ?_).mono ?_); (· exact blw); rintro E w2 ⟨h, ch, rfl, ho, hb_w2⟩; have lo2 := ho.lo; (try simp at lo2); have hQ := Lib.hid ho; clear ho; obtain ⟨hz_w2_w, hy_w2_w, hx_w2_w, hc_w2_w, hf_w2_w⟩ := bl5 hb_w2 (w.heap.size); obtain ⟨hz_w2_wp1, hy_w2_wp1, hx_w2_wp1, hc_w2_wp1, hf_w2_wp1⟩ := bl5 hb_w2 (w.heap.size + 1))))
  repeat' (first | go_values | go_skip | go_guarded | go_step | go_upon | (simp only []; go_simp))
  (with_reducible show bodyPost _ _ _ _ _ _); refine bodyPost_ret (by simp [results, Tryz.results41, go_sem, *]; first | done | rfl) rfl ?_
  exact ⟨g, cg, h, ch, rfl, (((hR.out.bel (show Below w1.heap.size w1 w2 from blw)).far (by simp; omega)).far (by simp; omega)).row, ((hQ.out.far (by simp; omega)).far (by simp; omega)).row, blw⟩
end Go.Proofs.YtjbfaaolfonmaaaGreat

