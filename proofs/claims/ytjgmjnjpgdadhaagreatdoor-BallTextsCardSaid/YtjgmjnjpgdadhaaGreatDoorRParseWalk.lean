/- The walk of the reference's parsing of balls. -/
import Derived.Test.YtjgmjnjpgdadhaaGreatDoorParseWalk
namespace Go.Proofs.YtjgmjnjpgdadhaaGreatDoor
open Go.RowKit Go

theorem cut_three (s : ByteArray) (w : World) (hs : s.size ≤ 1000000) {x y z : ByteArray} (h : cutL 32 s.data.toList = [x.data.toList, y.data.toList, z.data.toList]) :
    Calls Tryz.prog 48 #[.string s, .int .u8 32] w fun e w' => ∃ g cap : Nat, e = .returned (.slice (some ⟨g, 0, none⟩) 3 cap) ∧ (w.heap.size ≤ g ∧ g < w'.heap.size ∧ w'.cell? ⟨g, 0, none⟩ = some (.string x) ∧ w'.cell? ⟨g, 1, none⟩ = some (.string y) ∧ w'.cell? ⟨g, 2, none⟩ = some (.string z) ∧ 3 ≤ cap) ∧ Below w.heap.size w w' := by
  have t := Cut_any s 32 w hs
  rw [h] at t
  refine t.mono fun e w' ⟨g, cap, W, he, hW, hg, hl, hc, hcell, hb⟩ => ?_
  have hl3 : W.length = 3 := by have := congrArg List.length hW; simpa using this
  obtain ⟨a, b, c, rfl⟩ : ∃ a b c, W = [a, b, c] := by
    match W, hl3 with
    | [a, b, c], _ => exact ⟨a, b, c, rfl⟩
  simp only [List.map_cons, List.map_nil, List.cons.injEq, and_true] at hW
  obtain ⟨e1, e2, e3⟩ := hW
  have i : ∀ {a b : ByteArray}, a.data.toList = b.data.toList → a = b := fun {a b} h => by
    cases a; cases b; congr 1; exact Array.toList_inj.1 h
  obtain rfl := i e1
  obtain rfl := i e2
  obtain rfl := i e3
  exact ⟨g, cap, he, ⟨hg, hl, hcell 0 _ rfl, hcell 1 _ rfl, hcell 2 _ rfl, hc⟩, hb⟩
theorem cut_other (s : ByteArray) (w : World) (hs : s.size ≤ 1000000) (h : (cutL 32 s.data.toList).length ≠ 3) :
    Calls Tryz.prog 48 #[.string s, .int .u8 32] w fun e w' => ∃ g cap n : Nat, e = .returned (.slice (some ⟨g, 0, none⟩) n cap) ∧ ((n : Int) != 3) = true ∧ Below w.heap.size w w' := by
  refine (Cut_any s 32 w hs).mono fun e w' ⟨g, cap, W, he, hW, hg, hl, hc, hcell, hb⟩ => ?_
  refine ⟨g, cap, W.length, he, ?_, hb⟩
  have : W.length = (cutL 32 s.data.toList).length := by rw [← hW, List.length_map]
  rw [bne_iff_ne]; omega
theorem num_yes (x : ByteArray) (v : Int) (w : World) (hs : x.size ≤ 1000000) (h : numL x.data.toList 9 = some v) :
    Calls Tryz.prog 49 #[.string x, .int .i64 9] w fun e w' => e = .returned (.tuple #[.int .i64 v, .bool true]) ∧ w' = w := by
  have t := Number_any x 9 w (by decide) (by decide) hs
  rw [numV_some (D := 9) h] at t
  exact t
theorem num_no (x : ByteArray) (w : World) (hs : x.size ≤ 1000000) (h : numL x.data.toList 9 = none) :
    Calls Tryz.prog 49 #[.string x, .int .i64 9] w fun e w' => e = .returned (.tuple #[.int .i64 0, .bool false]) ∧ w' = w := by
  have t := Number_any x 9 w (by decide) (by decide) hs
  rw [numV_none (D := 9) h] at t
  exact t

set_option maxRecDepth 100000 in
set_option maxHeartbeats 4000000 in
theorem rparse_three (s : ByteArray) (w : World) (hs : s.size ≤ 1000000) {x y z : ByteArray} (h : cutL 32 s.data.toList = [x.data.toList, y.data.toList, z.data.toList]) (hx0 : x.size ≤ 1000000) (hx1 : y.size ≤ 1000000) (hx2 : z.size ≤ 1000000) :
    Calls Tryz.prog 19 #[.string s] w fun e w' => e = .returned (outR (parseM s.data.toList)) ∧ Below w.heap.size w w' := by
  have HM := Lib.hid (parseM_three h)
  have CU := Lib.hid (fun w => cut_three s w hs h)
  clear h
  go_enter Tryz.func19, Tryz.ntmps19
  go_wp2_with fail
  refine (CU.out _).mono ?_
  rintro e w1 ⟨g, cap, rfl, ⟨hg1, hg2, hg3, hg4, hg5, hg6⟩, hb_w1⟩
  have hz_w1_w : w.heap.size < w1.heap.size := (by have hs := hb_w1.size; (try simp at hs); omega)
  have hy_w1_w : w.heap.size < w1.heap.size + 1 := (by omega)
  have hx_w1_w : w.heap.size < w1.heap.size + 1 + 1 := (by omega)
  have hc_w1_w := fun o => hb_w1.cell (p := ⟨w.heap.size, o, none⟩) (by first | omega | (simp; done) | (simp; omega))
  have hf_w1_w := fun o => hb_w1.frozen (p := ⟨w.heap.size, o, none⟩) (by first | omega | (simp; done) | (simp; omega))
  have r0_w1 := (hc_w1_w 0).trans (show _ = some (.int .i64 0) by simp [go_sem])
  have r1_w1 := (hc_w1_w 1).trans (show _ = some (.int .i64 0) by simp [go_sem])
  have r2_w1 := (hc_w1_w 2).trans (show _ = some (.int .i64 0) by simp [go_sem])
  have hgw : ¬ w.heap.size = g := by simp at hg1; omega
  have hgw' : ¬ g = w.heap.size := by simp at hg1; omega
  have hgn : ¬ g = w1.heap.size := by omega
  clear hc_w1_w
  go_wp2_with fail
  refine wp_loop_rounds 4 ?_
  rw [rounds_succ]
  cases n0 : numL x.data.toList 9 with
  | none =>
    have HP := Lib.hid (show parseM s.data.toList = .bad 4 from by rw [HM.out, n0]; exact parse3_n1 _ _)
    have NN := Lib.hid (fun w => num_no x w hx0 n0)
    clear n0
    go_wp2_with fail
    refine (NN.out _).mono ?_
    rintro e w' ⟨rfl, rfl⟩
    go_wp2
    refine bodyPost_ret (v := outR (parseM s.data.toList)) (by rw [HP.out]; simp [outR, results, Tryz.results19, go_sem, *]; first | done | rfl) rfl ?_
    exact ⟨rfl, (by repeat' (first | (with_reducible exact Below.refl _ _) | (with_reducible assumption) | (with_reducible refine bl_alloc ?_ _) | (with_reducible refine bl_drew ?_) | (with_reducible refine bl_drewN ?_) | (with_reducible refine bl_setCell ?_ ?_ _) | (with_reducible refine bl_call ?_ (by with_reducible assumption)) | omega | (simp; done) | (simp; omega)))⟩
  | some v0 =>
    have N0 := Lib.hid n0
    have HF0 := Lib.hid (num_flo n0)
    have YY0 := Lib.hid (fun w => num_yes x v0 w hx0 n0)
    have F0 := num_flo n0
    unfold Flo at F0
    obtain ⟨fl0, fh0⟩ := F0
    clear n0
    go_wp2_with fail
    refine (YY0.out _).mono ?_
    rintro e w' ⟨rfl, rfl⟩
    go_wp2_with fail
    rw [rounds_succ]
    cases n1 : numL y.data.toList 9 with
    | none =>
      have HP := Lib.hid (show parseM s.data.toList = .bad 4 from by rw [HM.out, N0.out, n1]; exact parse3_n2 _ _)
      have NN := Lib.hid (fun w => num_no y w hx1 n1)
      clear n1
      go_wp2_with fail
      refine (NN.out _).mono ?_
      rintro e w' ⟨rfl, rfl⟩
      go_wp2
      refine bodyPost_ret (v := outR (parseM s.data.toList)) (by rw [HP.out]; simp [outR, results, Tryz.results19, go_sem, *]; first | done | rfl) rfl ?_
      exact ⟨rfl, (by repeat' (first | (with_reducible exact Below.refl _ _) | (with_reducible assumption) | (with_reducible refine bl_alloc ?_ _) | (with_reducible refine bl_drew ?_) | (with_reducible refine bl_drewN ?_) | (with_reducible refine bl_setCell ?_ ?_ _) | (with_reducible refine bl_call ?_ (by with_reducible assumption)) | omega | (simp; done) | (simp; omega)))⟩
    | some v1 =>
      have N1 := Lib.hid n1
      have HF1 := Lib.hid (num_flo n1)
      have YY1 := Lib.hid (fun w => num_yes y v1 w hx1 n1)
      have F1 := num_flo n1
      unfold Flo at F1
      obtain ⟨fl1, fh1⟩ := F1
      clear n1
      go_wp2_with fail
      refine (YY1.out _).mono ?_
      rintro e w' ⟨rfl, rfl⟩
      go_wp2_with fail
      rw [rounds_succ]
      cases n2 : numL z.data.toList 9 with
      | none =>
        have HP := Lib.hid (show parseM s.data.toList = .bad 4 from by rw [HM.out, N0.out, N1.out, n2]; exact parse3_n3 _ _)
        have NN := Lib.hid (fun w => num_no z w hx2 n2)
        clear n2
        go_wp2_with fail
        refine (NN.out _).mono ?_
        rintro e w' ⟨rfl, rfl⟩
        go_wp2
        refine bodyPost_ret (v := outR (parseM s.data.toList)) (by rw [HP.out]; simp [outR, results, Tryz.results19, go_sem, *]; first | done | rfl) rfl ?_
        exact ⟨rfl, (by repeat' (first | (with_reducible exact Below.refl _ _) | (with_reducible assumption) | (with_reducible refine bl_alloc ?_ _) | (with_reducible refine bl_drew ?_) | (with_reducible refine bl_drewN ?_) | (with_reducible refine bl_setCell ?_ ?_ _) | (with_reducible refine bl_call ?_ (by with_reducible assumption)) | omega | (simp; done) | (simp; omega)))⟩
      | some v2 =>
        have N2 := Lib.hid n2
        have HF2 := Lib.hid (num_flo n2)
        have YY2 := Lib.hid (fun w => num_yes z v2 w hx2 n2)
        have F2 := num_flo n2
        unfold Flo at F2
        obtain ⟨fl2, fh2⟩ := F2
        clear n2
        go_wp2_with fail
        refine (YY2.out _).mono ?_
        rintro e w' ⟨rfl, rfl⟩
        go_wp2_with fail
        rw [rounds_succ]
        go_wp2_with fail
        refine (rBall_any v0 v1 v2 _).mono ?_
        rintro e w2 ⟨rfl, hb_w2⟩
        have hz_w2_w : w.heap.size < w2.heap.size := (by have hs := hb_w2.size; (try simp at hs); omega)
        have hy_w2_w : w.heap.size < w2.heap.size + 1 := (by omega)
        have hx_w2_w : w.heap.size < w2.heap.size + 1 + 1 := (by omega)
        have hc_w2_w := fun o => hb_w2.cell (p := ⟨w.heap.size, o, none⟩) (by first | omega | (simp; done) | (simp; omega))
        have hf_w2_w := fun o => hb_w2.frozen (p := ⟨w.heap.size, o, none⟩) (by first | omega | (simp; done) | (simp; omega))
        have hz_w2_w1 : w1.heap.size < w2.heap.size := (by have hs := hb_w2.size; (try simp at hs); omega)
        have hy_w2_w1 : w1.heap.size < w2.heap.size + 1 := (by omega)
        have hx_w2_w1 : w1.heap.size < w2.heap.size + 1 + 1 := (by omega)
        have hc_w2_w1 := fun o => hb_w2.cell (p := ⟨w1.heap.size, o, none⟩) (by first | omega | (simp; done) | (simp; omega))
        have hf_w2_w1 := fun o => hb_w2.frozen (p := ⟨w1.heap.size, o, none⟩) (by first | omega | (simp; done) | (simp; omega))
        have hz_w2_w1p1 : w1.heap.size + 1 < w2.heap.size := (by have hs := hb_w2.size; (try simp at hs); omega)
        have hy_w2_w1p1 : w1.heap.size + 1 < w2.heap.size + 1 := (by omega)
        have hx_w2_w1p1 : w1.heap.size + 1 < w2.heap.size + 1 + 1 := (by omega)
        have hc_w2_w1p1 := fun o => hb_w2.cell (p := ⟨w1.heap.size + 1, o, none⟩) (by first | omega | (simp; done) | (simp; omega))
        have hf_w2_w1p1 := fun o => hb_w2.frozen (p := ⟨w1.heap.size + 1, o, none⟩) (by first | omega | (simp; done) | (simp; omega))
        have r0_w2 := (hc_w2_w 0).trans (show _ = some (.int .i64 0) by simp [go_sem, *])
        have r1_w2 := (hc_w2_w 1).trans (show _ = some (.int .i64 0) by simp [go_sem, *])
        have r2_w2 := (hc_w2_w 2).trans (show _ = some (.int .i64 0) by simp [go_sem, *])
        clear hc_w2_w
        by_cases hR : Right v0 v1 v2
        · have hp : parseM s.data.toList = .good v0 v1 v2 := by rw [HM.out, N0.out, N1.out, N2.out]; exact parse3_yes hR
          have hc : chk v0 v1 v2 = 0 := by unfold chk; exact if_pos hR
          have HC := Lib.hid (fun w => rCheck_any v0 v1 v2 w HF0.out HF1.out)
          rw [hc] at HC
          have HP := Lib.hid hp
          clear hp hc hR
          go_wp2_with fail
          refine (HC.out _).mono ?_
          rintro e w3 ⟨rfl, hb_w3⟩
          have hz_w3_w : w.heap.size < w3.heap.size := (by have hs := hb_w3.size; (try simp at hs); omega)
          have hy_w3_w : w.heap.size < w3.heap.size + 1 := (by omega)
          have hx_w3_w : w.heap.size < w3.heap.size + 1 + 1 := (by omega)
          have hc_w3_w := fun o => hb_w3.cell (p := ⟨w.heap.size, o, none⟩) (by first | omega | (simp; done) | (simp; omega))
          have hf_w3_w := fun o => hb_w3.frozen (p := ⟨w.heap.size, o, none⟩) (by first | omega | (simp; done) | (simp; omega))
          have hz_w3_w1p1 : w1.heap.size + 1 < w3.heap.size := (by have hs := hb_w3.size; (try simp at hs); omega)
          have hy_w3_w1p1 : w1.heap.size + 1 < w3.heap.size + 1 := (by omega)
          have hx_w3_w1p1 : w1.heap.size + 1 < w3.heap.size + 1 + 1 := (by omega)
          have hc_w3_w1p1 := fun o => hb_w3.cell (p := ⟨w1.heap.size + 1, o, none⟩) (by first | omega | (simp; done) | (simp; omega))
          have hf_w3_w1p1 := fun o => hb_w3.frozen (p := ⟨w1.heap.size + 1, o, none⟩) (by first | omega | (simp; done) | (simp; omega))
          have r0_w3 := (hc_w3_w 0).trans (show _ = some (.int .i64 0) by simp [go_sem, *])
          have r1_w3 := (hc_w3_w 1).trans (show _ = some (.int .i64 0) by simp [go_sem, *])
          have r2_w3 := (hc_w3_w 2).trans (show _ = some (.int .i64 0) by simp [go_sem, *])
          clear hc_w3_w
          go_wp2
          refine bodyPost_ret (v := outR (parseM s.data.toList)) (by rw [HP.out]; simp [outR, results, Tryz.results19, go_sem, *]; first | done | rfl) rfl ?_
          exact ⟨rfl, (by repeat' (first | (with_reducible exact Below.refl _ _) | (with_reducible assumption) | (with_reducible refine bl_alloc ?_ _) | (with_reducible refine bl_drew ?_) | (with_reducible refine bl_drewN ?_) | (with_reducible refine bl_setCell ?_ ?_ _) | (with_reducible refine bl_call ?_ (by with_reducible assumption)) | omega | (simp; done) | (simp; omega)))⟩
        · have hp : parseM s.data.toList = .bad 2 := by rw [HM.out, N0.out, N1.out, N2.out]; exact parse3_no hR
          have hc : chk v0 v1 v2 = 2 := by unfold chk; exact if_neg hR
          have HC := Lib.hid (fun w => rCheck_any v0 v1 v2 w HF0.out HF1.out)
          rw [hc] at HC
          have HP := Lib.hid hp
          clear hp hc hR
          go_wp2_with fail
          refine (HC.out _).mono ?_
          rintro e w3 ⟨rfl, hb_w3⟩
          have hz_w3_w : w.heap.size < w3.heap.size := (by have hs := hb_w3.size; (try simp at hs); omega)
          have hy_w3_w : w.heap.size < w3.heap.size + 1 := (by omega)
          have hx_w3_w : w.heap.size < w3.heap.size + 1 + 1 := (by omega)
          have hc_w3_w := fun o => hb_w3.cell (p := ⟨w.heap.size, o, none⟩) (by first | omega | (simp; done) | (simp; omega))
          have hf_w3_w := fun o => hb_w3.frozen (p := ⟨w.heap.size, o, none⟩) (by first | omega | (simp; done) | (simp; omega))
          have hz_w3_w1p1 : w1.heap.size + 1 < w3.heap.size := (by have hs := hb_w3.size; (try simp at hs); omega)
          have hy_w3_w1p1 : w1.heap.size + 1 < w3.heap.size + 1 := (by omega)
          have hx_w3_w1p1 : w1.heap.size + 1 < w3.heap.size + 1 + 1 := (by omega)
          have hc_w3_w1p1 := fun o => hb_w3.cell (p := ⟨w1.heap.size + 1, o, none⟩) (by first | omega | (simp; done) | (simp; omega))
          have hf_w3_w1p1 := fun o => hb_w3.frozen (p := ⟨w1.heap.size + 1, o, none⟩) (by first | omega | (simp; done) | (simp; omega))
          have r0_w3 := (hc_w3_w 0).trans (show _ = some (.int .i64 0) by simp [go_sem, *])
          have r1_w3 := (hc_w3_w 1).trans (show _ = some (.int .i64 0) by simp [go_sem, *])
          have r2_w3 := (hc_w3_w 2).trans (show _ = some (.int .i64 0) by simp [go_sem, *])
          clear hc_w3_w
          go_wp2
          refine bodyPost_ret (v := outR (parseM s.data.toList)) (by rw [HP.out]; simp [outR, results, Tryz.results19, go_sem, *]; first | done | rfl) rfl ?_
          exact ⟨rfl, (by repeat' (first | (with_reducible exact Below.refl _ _) | (with_reducible assumption) | (with_reducible refine bl_alloc ?_ _) | (with_reducible refine bl_drew ?_) | (with_reducible refine bl_drewN ?_) | (with_reducible refine bl_setCell ?_ ?_ _) | (with_reducible refine bl_call ?_ (by with_reducible assumption)) | omega | (simp; done) | (simp; omega)))⟩

set_option maxRecDepth 100000 in
set_option maxHeartbeats 1000000 in
theorem rparse_other (s : ByteArray) (w : World) (hs : s.size ≤ 1000000) (h : (cutL 32 s.data.toList).length ≠ 3) :
    Calls Tryz.prog 19 #[.string s] w fun e w' => e = .returned (outR (parseM s.data.toList)) ∧ Below w.heap.size w w' := by
  have HP := Lib.hid (parseM_short h)
  have SP := Lib.hid (fun w => cut_other s w hs h)
  clear h
  go_enter Tryz.func19, Tryz.ntmps19
  go_wp2_with fail
  refine (SP.out _).mono ?_
  rintro e w1 ⟨g, cap, n, rfl, hn, hb_w1⟩
  have hz_w1_w : w.heap.size < w1.heap.size := (by have hs := hb_w1.size; (try simp at hs); omega)
  have hy_w1_w : w.heap.size < w1.heap.size + 1 := (by omega)
  have hx_w1_w : w.heap.size < w1.heap.size + 1 + 1 := (by omega)
  have hc_w1_w := fun o => hb_w1.cell (p := ⟨w.heap.size, o, none⟩) (by first | omega | (simp; done) | (simp; omega))
  have hf_w1_w := fun o => hb_w1.frozen (p := ⟨w.heap.size, o, none⟩) (by first | omega | (simp; done) | (simp; omega))
  go_wp2
  refine bodyPost_ret (v := outR (parseM s.data.toList)) (by rw [HP.out]; simp [outR, results, Tryz.results19, go_sem, *]; first | done | rfl) rfl ?_
  exact ⟨rfl, (by repeat' (first | (with_reducible exact Below.refl _ _) | (with_reducible assumption) | (with_reducible refine bl_alloc ?_ _) | (with_reducible refine bl_drew ?_) | (with_reducible refine bl_drewN ?_) | (with_reducible refine bl_setCell ?_ ?_ _) | (with_reducible refine bl_call ?_ (by with_reducible assumption)) | omega | (simp; done) | (simp; omega)))⟩

theorem rParse_any (s : ByteArray) (w : World) (hs : s.size ≤ 1000000) :
    Calls Tryz.prog 19 #[.string s] w fun e w' => e = .returned (outR (parseM s.data.toList)) ∧ Below w.heap.size w w' := by
  by_cases h : (cutL 32 s.data.toList).length = 3
  · match hl : cutL 32 s.data.toList, h with
    | [a, b, c], _ =>
      obtain ⟨x, y, z, rfl, rfl, rfl, _⟩ := split_three s hs hl
      have hx : ∀ q ∈ cutL 32 s.data.toList, q.length ≤ 1000000 := fun q hq => Nat.le_trans (cut_len _ _ _ hq) (by rw [list_of]; exact hs)
      rw [hl] at hx
      have hx0 := hx x.data.toList (by simp)
      have hx1 := hx y.data.toList (by simp)
      have hx2 := hx z.data.toList (by simp)
      rw [list_of] at hx0 hx1 hx2
      exact rparse_three s w hs hl hx0 hx1 hx2
  · exact rparse_other s w hs h
end Go.Proofs.YtjgmjnjpgdadhaaGreatDoor

