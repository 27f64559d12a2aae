/- The least boxes over several boxes: the reference's walk. -/
import Derived.Test.YtjbfaaolfonmaaaGreatHullWalk
namespace Go.Proofs.YtjbfaaolfonmaaaGreat
open Go Go.Sort Go.RowKit

theorem rHull_nil (w : World) : Calls Tryz.prog 39 #[.slice none 0 0] w fun E w' => HullG (12, []) w E w' := by
  go_enter Tryz.func39, Tryz.ntmps39
  repeat' (first | go_values | go_skip | go_guarded | go_step | go_upon | (simp only []; go_simp))
  go_ret2
  exact hullG_none blw
theorem Hull_nil (w : World) : Calls Tryz.prog 38 #[.slice none 0 0] w fun E w' => HullG (12, []) w E w' := by
  go_enter Tryz.func38, Tryz.ntmps38
  repeat' (first | go_values | go_skip | go_guarded | go_step | go_upon | (simp only []; go_simp))
  go_ret2
  exact hullG_none blw

set_option maxRecDepth 100000 in
set_option maxHeartbeats 8000000 in
theorem rHullOf_walk (a : Addr) (l0 : List Box) (LL : List (List Box)) (cap : Nat) (h0 : LL[0]? = some l0) (hn : LL.length ≤ 1000) (hl : ∀ ls ∈ LL, ls.length ≤ 1000) (w : World) (hr : Tab (some a) LL w) :
    Calls Tryz.prog 39 #[.slice (some a) LL.length cap] w fun E w' => HullG (hullGo l0 LL) w E w' := by
  obtain ⟨R, hR⟩ : ∃ R, hullGo l0 LL = R := ⟨_, rfl⟩
  rw [hR]
  have H0 : HidH R l0 LL 0 := hR
  have hpos : 0 < LL.length := (List.getElem?_eq_some_iff.1 h0).1
  have HH := Lib.hid (And.intro hr (And.intro hl (And.intro h0 H0)))
  generalize hN : LL.length = N at *
  have n0 : ¬ ((N : Int) = 0) := by omega
  have n1 : ¬ ((2000 : Int) < N) := by omega
  have n0b : ((N : Int) == 0) = false := by simpa using n0
  clear hr hl h0 hR H0
  go_enter Tryz.func39, Tryz.ntmps39
  go_wp2_with fail
  go_loopw [4, 5] (fun V i wr => ∃ k : Nat, k ≤ N ∧ i = .int .i64 k ∧ ((k = 0 ∧ V = .slice none 0 0) ∨ (0 < k ∧ ∃ (o : List Box) (g c : Nat), V = .slice (some ⟨g, 0, none⟩) l0.length c ∧ HidH R o LL k ∧ o.length = l0.length ∧ OwnBox o w.heap.size g wr)) ∧ Below w.heap.size w wr) (fun _ i _ => N - (intOf i).toNat)
  case atStart => exact ⟨0, by omega, rfl, .inl ⟨rfl, rfl⟩, blw⟩
  case round =>
    obtain ⟨k, hk, rfl, hst, hb_wr⟩ := hrel
    obtain ⟨hr, hl, h0, H0⟩ := HH.out
    by_cases hlt : k < N
    · obtain ⟨x, hx⟩ : ∃ x, LL[k]? = some x := ⟨_, List.getElem?_eq_getElem (by omega)⟩
      obtain ⟨_, q, cx, e9, ex0, hqn, rx⟩ := hr.get k x hx
      cases e9
      have ex := (hb_wr.cell (p := a.add k) (World.block_lt_of_cell? w _ ex0)).trans ex0
      have hxl := hl x (List.mem_of_getElem? hx)
      have ER := Lib.hid (fun w hr => rberr_any q x cx w hr)
      have RX := Lib.hid (And.intro rx ex0)
      have KB := Lib.hid hb_wr
      have hlt2 : (k : Int) < N := by omega
      have HX := Lib.hid hx
      clear hr hl rx hx ex0
      by_cases hq : checkQ x = 0
      case neg =>
        have hR : R = (checkQ x, []) := by
          rcases hst with ⟨rfl, _⟩ | ⟨_, o, _, _, _, hH, _⟩
          · exact hidH_bad H0 HX.out hq
          · exact hidH_bad hH HX.out hq
        have hq' : (checkQ x != 0) = true := by simp [hq]
        clear hst h0 H0 HH
        generalize checkQ x = qx at *
        generalize x.length = m at *
        subst hR
        go_wp2_with fail
        refine (ER.out _ (RX.out.1.bel blw)).mono ?_
        rintro E w2 ⟨rfl, hb_w2⟩
        go_wp2
        (with_reducible show bodyPost _ _ _ _ _ _); refine bodyPost_ret (by simp [results, Tryz.results39, go_sem, *]; first | done | rfl) rfl ?_
        exact hullG_none blw
      rw [hq] at ER
      have HQ := Lib.hid hq
      obtain ⟨qa, rfl⟩ : ∃ qa, q = some qa := by
        cases q with
        | none => have := (checkQ_zero hq).2.1; have := (hqn rfl).1; omega
        | some qa => exact ⟨qa, rfl⟩
      clear hq hqn
      rcases hst with ⟨rfl, rfl⟩ | ⟨hk0, o, g, c, rfl, hH, hol, ho1⟩
      · have hxl0 : x = l0 := by have := HX.out; rw [h0] at this; exact (Option.some.inj this).symm
        subst hxl0
        rw [show a.add 0 = a from by simp [Addr.add]] at ex
        have CP := Lib.hid (fun w hr => copy_any qa x cx w hr hxl)
        have hk1 : ((0 : Nat) : Int) = 0 := rfl
        go_wp2_with fail
        refine (ER.out _ (RX.out.1.bel blw)).mono ?_
        rintro E w2 ⟨rfl, hb_w2⟩
        have ex2 := (Below.cell (p := a) hb_w2 (World.block_lt_of_cell? wr _ ex)).trans ex
        go_wp2_with fail
        refine (CP.out _ (RX.out.1.bel blw)).mono ?_
        rintro E w3 ⟨g, c, rfl, ho1, hb_w3⟩
        have ho1 := ho1.low (show w.heap.size ≤ _ from by have := hb_wr.size; have := hb_w2.size; first | omega | (simp; omega))
        have hH := H0
        have hol : x.length = x.length := rfl
        have hx0 := h0
        have RX := Lib.hid (And.intro RX.out.1 (show w.cell? a = some (.slice (some qa) x.length cx) from by have := RX.out.2; rw [show a.add 0 = a from by simp [Addr.add]] at this; exact this))
        clear ex2 CP ER
        have HO := Lib.hid (And.intro hH (And.intro hol HX.out))
        have hb_w9 : Below w.heap.size w w3 := blw
        clear hH hol h0 H0 HH KB
        have HL := Lib.hid (And.intro (rfl : x.length = x.length) (rfl : x.length = x.length))
        have e1 : ((x.length : Int) != (x.length : Int)) = false := by simp
        have H1 := Lib.hid (hidO_start x x)
        have HOV := Lib.hid (overs_len (o := x) (x := x) (by have := HL.out; omega))
        generalize hT : lossOk x x = T at *
        have hT := Lib.hid hT
        obtain ⟨m, hm⟩ : ∃ m, x.length = m := ⟨_, rfl⟩
        rw [hm] at e1 ⊢
        have ex3 := (hb_w9.cell (p := a) (World.block_lt_of_cell? w _ RX.out.2)).trans RX.out.2
        rw [hm] at ex3
        have HM := Lib.hid hm
        have hm9 : m ≤ 1000 := by omega
        have ho1 := Lib.hid ho1
        clear ex hm
        go_wp2_with fail
        go_loopw [7] (fun i wr => ∃ j : Nat, j ≤ m ∧ i = .int .i64 j ∧ HidO T x x j ∧ OwnBox x w.heap.size g wr ∧ Below w.heap.size w wr) (fun i _ => m - (intOf i).toNat)
        case atStart => exact ⟨0, by omega, rfl, H1.out, ho1.out.bel blw, blw⟩
        case round =>
          obtain ⟨j, hj, rfl, hO, ho2, hb_w5⟩ := hrel
          have ex5 := (hb_w5.cell (p := a) (World.block_lt_of_cell? w _ RX.out.2)).trans RX.out.2
          rw [HM.out] at ex5
          clear ex3
          by_cases hjt : j < m
          · obtain ⟨b, hb⟩ : ∃ b, x[j]? = some b := ⟨_, List.getElem?_eq_getElem (by have := HM.out; omega)⟩
            obtain ⟨d, hd⟩ : ∃ d, x[j]? = some d := ⟨_, List.getElem?_eq_getElem (by have := HM.out; have := (rfl : x.length = x.length); omega)⟩
            obtain ⟨_, e9, hqa, hB⟩ := (RX.out.1.bel hb_w5).get j b hb
            cases e9
            obtain ⟨_, e9, hga, hD⟩ := ho2.row.get j d hd
            cases e9
            obtain ⟨E1, E2, E3, E4, E5⟩ := hB
            obtain ⟨F1, F2, F3, F4, F5⟩ := own_five hD
            rw [block_add] at hga
            clear hD E1 E2 E3 E4 F1 F2 F3 F4
            have hj2 : (j : Int) < m := by omega
            have ho2 := Lib.hid ho2
            have HN := Lib.hid (fun hc => hidO_next hO hd hb hc)
            have HB := Lib.hid (fun hc => hidO_bad hO hd hb hc)
            clear hO hb hd
            generalize b.lo = bl at *
            generalize d.lo = dl at *
            by_cases hc : bl = dl
            · have hc2 : (bl != dl) = false := by simp [hc]
              have HN := Lib.hid (HN.out hc)
              clear hc HB
              go_wp2_with fail
              first | (go_region_held3 (fun w' => w'.cell? (a) = some (.slice (some qa) m cx) ∧ w'.cell? ⟨(qa.add (j * 5)).block, (qa.add (j * 5)).off + 4, none⟩ = some (.int .i64 bl) ∧ w'.cell? ⟨g, j * 5 + 4, none⟩ = some (.int .i64 dl)) (simp [*, go_sem]) (fail)) | fail "region 19"
              go_wp2_with fail
              go_roundw
              case rel => exact ⟨j + 1, by omega, by first | (simp; done) | (simp; omega), HN.out, ho2.out.bel blw, blw⟩
              case measure => simp [intOf]; omega
            · have hc2 : (bl != dl) = true := by simp [hc]
              have hR : R = (14, []) := hidH_clash HO.out.1 HO.out.2.2 HQ.out rfl (hT.out.trans (HB.out hc))
              clear hc HB HN
              subst hR
              go_wp2_with fail
              first | (go_region_held3 (fun w' => w'.cell? (a) = some (.slice (some qa) m cx) ∧ w'.cell? ⟨(qa.add (j * 5)).block, (qa.add (j * 5)).off + 4, none⟩ = some (.int .i64 bl) ∧ w'.cell? ⟨g, j * 5 + 4, none⟩ = some (.int .i64 dl)) (simp [*, go_sem]) (fail)) | fail "region 19"
              go_wp2
              (with_reducible show bodyPost _ _ _ _ _ _); refine bodyPost_ret (by simp [results, Tryz.results39, go_sem, *]; first | done | rfl) rfl ?_
              exact hullG_none blw
          · obtain rfl : j = m := by omega
            have hTt := hidO_end hO (by have := HM.out; have := (rfl : x.length = x.length); omega)
            have hj2 : ¬ ((j : Int) < j) := by omega
            have HN := Lib.hid (hidH_next HO.out.1 HO.out.2.2 HQ.out rfl (hT.out.trans hTt))
            have HOE := Lib.hid (show overs x x j = List.zipWith overB x x from by rw [← HM.out]; exact overs_end rfl)
            have HLZ := Lib.hid (show (List.zipWith overB x x).length = j from by rw [List.length_zipWith]; have := HM.out; have := (rfl : x.length = x.length); omega)
            have ho2 := Lib.hid ho2
            clear hO hTt hj hjt
            go_wp2_with fail
            go_loopw [8] (fun i wr => ∃ k2 : Nat, k2 ≤ j ∧ i = .int .i64 k2 ∧ OwnBox (overs x x k2) w.heap.size g wr ∧ Below w.heap.size w wr) (fun i _ => j - (intOf i).toNat)
            case atStart => exact ⟨0, by omega, rfl, by rw [overs_zero]; exact ho2.out.bel blw, blw⟩
            case round =>
              obtain ⟨k2, hk2, rfl, ho4, hb_w6⟩ := hrel
              have ex6 := (hb_w6.cell (p := a) (World.block_lt_of_cell? w _ RX.out.2)).trans RX.out.2
              rw [HM.out] at ex6
              clear ex5
              by_cases hjt : k2 < j
              · obtain ⟨b, hb⟩ : ∃ b, x[k2]? = some b := ⟨_, List.getElem?_eq_getElem (by have := HM.out; omega)⟩
                obtain ⟨d, hd⟩ : ∃ d, x[k2]? = some d := ⟨_, List.getElem?_eq_getElem (by have := HM.out; have := (rfl : x.length = x.length); omega)⟩
                have OV := Lib.hid (overs_next hd hb)
                have hd2 : (overs x x k2)[k2]? = some d := by rw [overs_get rfl]; exact hd
                obtain ⟨_, e9, hqa, hB⟩ := (RX.out.1.bel hb_w6).get k2 b hb
                cases e9
                obtain ⟨_, e9, hga, hD⟩ := ho4.row.get k2 d hd2
                cases e9
                have fr := ho4.free
                have hg := ho4.lo
                have hg2 := ho4.hi
                have HP := Lib.hid (fun w' (h : Below _ _ w') => (ho4.bel h).over (b := b) hd2)
                rw [OV.out.symm] at HP
                obtain ⟨E1, E2, E3, E4, E5⟩ := hB
                obtain ⟨F1, F2, F3, F4, F5⟩ := own_five hD
                rw [block_add] at hga
                clear hD hb hd hd2 ho4 E5 F5 OV
                have hj3 : (k2 : Int) < j := by omega
                obtain ⟨b0, b1, b2, b3, b4⟩ := b
                obtain ⟨d0, d1, d2, d3, d4⟩ := d
                simp only at E1 E2 E3 E4 F1 F2 F3 F4
                simp only at HP
                have A1 := Lib.hid (rhull_any d0 d1 b0 b1)
                have A2 := Lib.hid (rhull_any d2 d3 b2 b3)
                go_wp2_with fail
                refine calm_moves 32 2 3 _ _ _ rfl rfl rfl rfl (by kernel_rfl) (by kernel_rfl) (by kernel_rfl) (by kernel_rfl) (fun _ _ _ _ h => h) (fun _ _ _ _ h => h) fun hG => ?_
                have hg_a := hG_at hG (p := a) (v := .slice (some qa) j cx) (by first | exact ex6 | (simp [*, go_sem]; done))
                have hg_q0 := hG_at hG (p := qa.add (k2 * 5)) (v := .int .i64 b0) (by first | exact E1 | (simp [*, go_sem]; done))
                have hg_q1 := hG_at hG (p := ⟨(qa.add (k2 * 5)).block, (qa.add (k2 * 5)).off + 1, none⟩) (v := .int .i64 b1) (by first | exact E2 | (simp [*, go_sem]; done))
                have hg_q2 := hG_at hG (p := ⟨(qa.add (k2 * 5)).block, (qa.add (k2 * 5)).off + 2, none⟩) (v := .int .i64 b2) (by first | exact E3 | (simp [*, go_sem]; done))
                have hg_q3 := hG_at hG (p := ⟨(qa.add (k2 * 5)).block, (qa.add (k2 * 5)).off + 3, none⟩) (v := .int .i64 b3) (by first | exact E4 | (simp [*, go_sem]; done))
                have hg_g := hG g lto
                clear hG
                simp only [List.take_succ_cons, List.take_zero, List.drop_succ_cons, List.drop_zero]
                repeat (go_big_quiet_step (first | (go_at_call 101; with_reducible exact calm_call A1.out) | (go_at_call 101; with_reducible exact calm_call A2.out)))
                refine wpQuiet_nil ?_
                intro w7 hb_w7
                clear hg_a hg_q0 hg_q1 hg_q2 hg_q3 hg_g
                have hs_w7 := hb_w7.size
                (try simp at hs_w7)
                obtain ⟨hz_w7_xg, hy_w7_xg, hx_w7_xg, hc_w7_xg, hf_w7_xg⟩ := bl5 hb_w7 (g)
                go_wp2_with fail
                have ho7 := HP.out w7 blw
                go_roundw
                case rel => exact ⟨k2 + 1, by omega, by first | (simp; done) | (simp; omega), ho7, blw⟩
                case measure => simp [intOf]; omega
              · obtain rfl : k2 = j := by omega
                have hj3 : ¬ ((k2 : Int) < k2) := by omega
                rw [HOE.out] at ho4
                have ho4 := Lib.hid ho4
                clear hjt hk2
                go_wp2_with fail
                go_roundw
                case rel => exact ⟨0 + 1, by omega, by first | (simp; done) | (simp; omega), .inr ⟨by omega, List.zipWith overB x x, g, c, by rw [HM.out], HN.out, by rw [HLZ.out, HM.out], ho4.out.bel blw⟩, blw⟩
                case measure => simp [intOf]; omega
      · have hk1 : ¬ ((k : Int) = 0) := by omega
        have hk1b : ((k : Int) == 0) = false := by simpa using hk1
        go_wp2_with fail
        refine (ER.out _ (RX.out.1.bel blw)).mono ?_
        rintro E w2 ⟨rfl, hb_w2⟩
        have ho1 := ho1.bel (show Below wr.heap.size wr w2 from blw)
        clear ER
        have HO := Lib.hid (And.intro hH (And.intro hol HX.out))
        have hb_w9 : Below w.heap.size w w2 := blw
        clear hH hol h0 H0 HH KB
        by_cases hn2 : x.length = o.length
        case neg =>
          have hR : R = (12, []) := hidH_len HO.out.1 HO.out.2.2 HQ.out hn2
          have e1 : ((x.length : Int) != (l0.length : Int)) = true := by have := HO.out.2.1; simp; omega
          have ex3 := (hb_w9.cell (p := a.add k) (World.block_lt_of_cell? w _ RX.out.2)).trans RX.out.2
          subst hR
          clear hn2
          generalize x.length = m at *
          clear ex ho1
          go_wp2
          (with_reducible show bodyPost _ _ _ _ _ _); refine bodyPost_ret (by simp [results, Tryz.results39, go_sem, *]; first | done | rfl) rfl ?_
          exact hullG_none blw
        have HL := Lib.hid (And.intro hn2 HO.out.2.1)
        have e1 : ((x.length : Int) != (l0.length : Int)) = false := by rw [hn2, HO.out.2.1]; simp
        have H1 := Lib.hid (hidO_start o x)
        have HOV := Lib.hid (overs_len (o := o) (x := x) (by have := HL.out; omega))
        have HQN := Lib.hid (show ∀ j : Nat, o.length = x.length from fun _ => by have := HL.out; omega)
        generalize hT : lossOk o x = T at *
        have hT := Lib.hid hT
        obtain ⟨m, hm⟩ : ∃ m, x.length = m := ⟨_, rfl⟩
        have hl0m : l0.length = m := by have := HL.out; omega
        rw [hm, hl0m] at e1
        rw [hl0m]
        have ex3 := (hb_w9.cell (p := a.add k) (World.block_lt_of_cell? w _ RX.out.2)).trans RX.out.2
        rw [hm] at ex3
        have HM := Lib.hid hm
        have hm9 : m ≤ 1000 := by omega
        have ho1 := Lib.hid ho1
        clear ex hm hn2 hl0m
        go_wp2_with fail
        go_loopw [7] (fun i wr => ∃ j : Nat, j ≤ m ∧ i = .int .i64 j ∧ HidO T o x j ∧ OwnBox o w.heap.size g wr ∧ Below w.heap.size w wr) (fun i _ => m - (intOf i).toNat)
        case atStart => exact ⟨0, by omega, rfl, H1.out, ho1.out.bel blw, blw⟩
        case round =>
          obtain ⟨j, hj, rfl, hO, ho2, hb_w5⟩ := hrel
          have ex5 := (hb_w5.cell (p := a.add k) (World.block_lt_of_cell? w _ RX.out.2)).trans RX.out.2
          rw [HM.out] at ex5
          clear ex3
          by_cases hjt : j < m
          · obtain ⟨b, hb⟩ : ∃ b, x[j]? = some b := ⟨_, List.getElem?_eq_getElem (by have := HM.out; omega)⟩
            obtain ⟨d, hd⟩ : ∃ d, o[j]? = some d := ⟨_, List.getElem?_eq_getElem (by have := HM.out; have := (HQN.out 0); omega)⟩
            obtain ⟨_, e9, hqa, hB⟩ := (RX.out.1.bel hb_w5).get j b hb
            cases e9
            obtain ⟨_, e9, hga, hD⟩ := ho2.row.get j d hd
            cases e9
            obtain ⟨E1, E2, E3, E4, E5⟩ := hB
            obtain ⟨F1, F2, F3, F4, F5⟩ := own_five hD
            rw [block_add] at hga
            clear hD E1 E2 E3 E4 F1 F2 F3 F4
            have hj2 : (j : Int) < m := by omega
            have ho2 := Lib.hid ho2
            have HN := Lib.hid (fun hc => hidO_next hO hd hb hc)
            have HB := Lib.hid (fun hc => hidO_bad hO hd hb hc)
            clear hO hb hd
            generalize b.lo = bl at *
            generalize d.lo = dl at *
            by_cases hc : bl = dl
            · have hc2 : (bl != dl) = false := by simp [hc]
              have HN := Lib.hid (HN.out hc)
              clear hc HB
              go_wp2_with fail
              first | (go_region_held3 (fun w' => w'.cell? (a.add k) = some (.slice (some qa) m cx) ∧ w'.cell? ⟨(qa.add (j * 5)).block, (qa.add (j * 5)).off + 4, none⟩ = some (.int .i64 bl) ∧ w'.cell? ⟨g, j * 5 + 4, none⟩ = some (.int .i64 dl)) (simp [*, go_sem]) (fail)) | fail "region 19"
              go_wp2_with fail
              go_roundw
              case rel => exact ⟨j + 1, by omega, by first | (simp; done) | (simp; omega), HN.out, ho2.out.bel blw, blw⟩
              case measure => simp [intOf]; omega
            · have hc2 : (bl != dl) = true := by simp [hc]
              have hR : R = (14, []) := hidH_clash HO.out.1 HO.out.2.2 HQ.out (HQN.out 0).symm (hT.out.trans (HB.out hc))
              clear hc HB HN
              subst hR
              go_wp2_with fail
              first | (go_region_held3 (fun w' => w'.cell? (a.add k) = some (.slice (some qa) m cx) ∧ w'.cell? ⟨(qa.add (j * 5)).block, (qa.add (j * 5)).off + 4, none⟩ = some (.int .i64 bl) ∧ w'.cell? ⟨g, j * 5 + 4, none⟩ = some (.int .i64 dl)) (simp [*, go_sem]) (fail)) | fail "region 19"
              go_wp2
              (with_reducible show bodyPost _ _ _ _ _ _); refine bodyPost_ret (by simp [results, Tryz.results39, go_sem, *]; first | done | rfl) rfl ?_
              exact hullG_none blw
          · obtain rfl : j = m := by omega
            have hTt := hidO_end hO (by have := HM.out; have := (HQN.out 0); omega)
            have hj2 : ¬ ((j : Int) < j) := by omega
            have HN := Lib.hid (hidH_next HO.out.1 HO.out.2.2 HQ.out (HQN.out 0).symm (hT.out.trans hTt))
            have HOE := Lib.hid (show overs o x j = List.zipWith overB o x from by rw [← HM.out, (HQN.out 0).symm]; exact overs_end (HQN.out 0).symm)
            have HLZ := Lib.hid (show (List.zipWith overB o x).length = j from by rw [List.length_zipWith]; have := HM.out; have := (HQN.out 0); omega)
            have ho2 := Lib.hid ho2
            clear hO hTt hj hjt
            go_wp2_with fail
            go_loopw [8] (fun i wr => ∃ k2 : Nat, k2 ≤ j ∧ i = .int .i64 k2 ∧ OwnBox (overs o x k2) w.heap.size g wr ∧ Below w.heap.size w wr) (fun i _ => j - (intOf i).toNat)
            case atStart => exact ⟨0, by omega, rfl, by rw [overs_zero]; exact ho2.out.bel blw, blw⟩
            case round =>
              obtain ⟨k2, hk2, rfl, ho4, hb_w6⟩ := hrel
              have ex6 := (hb_w6.cell (p := a.add k) (World.block_lt_of_cell? w _ RX.out.2)).trans RX.out.2
              rw [HM.out] at ex6
              clear ex5
              by_cases hjt : k2 < j
              · obtain ⟨b, hb⟩ : ∃ b, x[k2]? = some b := ⟨_, List.getElem?_eq_getElem (by have := HM.out; omega)⟩
                obtain ⟨d, hd⟩ : ∃ d, o[k2]? = some d := ⟨_, List.getElem?_eq_getElem (by have := HM.out; have := (HQN.out 0); omega)⟩
                have OV := Lib.hid (overs_next hd hb)
                have hd2 : (overs o x k2)[k2]? = some d := by rw [overs_get (HQN.out 0).symm]; exact hd
                obtain ⟨_, e9, hqa, hB⟩ := (RX.out.1.bel hb_w6).get k2 b hb
                cases e9
                obtain ⟨_, e9, hga, hD⟩ := ho4.row.get k2 d hd2
                cases e9
                have fr := ho4.free
                have hg := ho4.lo
                have hg2 := ho4.hi
                have HP := Lib.hid (fun w' (h : Below _ _ w') => (ho4.bel h).over (b := b) hd2)
                rw [OV.out.symm] at HP
                obtain ⟨E1, E2, E3, E4, E5⟩ := hB
                obtain ⟨F1, F2, F3, F4, F5⟩ := own_five hD
                rw [block_add] at hga
                clear hD hb hd hd2 ho4 E5 F5 OV
                have hj3 : (k2 : Int) < j := by omega
                obtain ⟨b0, b1, b2, b3, b4⟩ := b
                obtain ⟨d0, d1, d2, d3, d4⟩ := d
                simp only at E1 E2 E3 E4 F1 F2 F3 F4
                simp only at HP
                have A1 := Lib.hid (rhull_any d0 d1 b0 b1)
                have A2 := Lib.hid (rhull_any d2 d3 b2 b3)
                go_wp2_with fail
                refine calm_moves 32 2 3 _ _ _ rfl rfl rfl rfl (by kernel_rfl) (by kernel_rfl) (by kernel_rfl) (by kernel_rfl) (fun _ _ _ _ h => h) (fun _ _ _ _ h => h) fun hG => ?_
                have hg_a := hG_at hG (p := a.add k) (v := .slice (some qa) j cx) (by first | exact ex6 | (simp [*, go_sem]; done))
                have hg_q0 := hG_at hG (p := qa.add (k2 * 5)) (v := .int .i64 b0) (by first | exact E1 | (simp [*, go_sem]; done))
                have hg_q1 := hG_at hG (p := ⟨(qa.add (k2 * 5)).block, (qa.add (k2 * 5)).off + 1, none⟩) (v := .int .i64 b1) (by first | exact E2 | (simp [*, go_sem]; done))
                have hg_q2 := hG_at hG (p := ⟨(qa.add (k2 * 5)).block, (qa.add (k2 * 5)).off + 2, none⟩) (v := .int .i64 b2) (by first | exact E3 | (simp [*, go_sem]; done))
                have hg_q3 := hG_at hG (p := ⟨(qa.add (k2 * 5)).block, (qa.add (k2 * 5)).off + 3, none⟩) (v := .int .i64 b3) (by first | exact E4 | (simp [*, go_sem]; done))
                have hg_g := hG g lto
                clear hG
                simp only [List.take_succ_cons, List.take_zero, List.drop_succ_cons, List.drop_zero]
                repeat (go_big_quiet_step (first | (go_at_call 101; with_reducible exact calm_call A1.out) | (go_at_call 101; with_reducible exact calm_call A2.out)))
                refine wpQuiet_nil ?_
                intro w7 hb_w7
                clear hg_a hg_q0 hg_q1 hg_q2 hg_q3 hg_g
                have hs_w7 := hb_w7.size
                (try simp at hs_w7)
                obtain ⟨hz_w7_xg, hy_w7_xg, hx_w7_xg, hc_w7_xg, hf_w7_xg⟩ := bl5 hb_w7 (g)
                go_wp2_with fail
                have ho7 := HP.out w7 blw
                go_roundw
                case rel => exact ⟨k2 + 1, by omega, by first | (simp; done) | (simp; omega), ho7, blw⟩
                case measure => simp [intOf]; omega
              · obtain rfl : k2 = j := by omega
                have hj3 : ¬ ((k2 : Int) < k2) := by omega
                rw [HOE.out] at ho4
                have ho4 := Lib.hid ho4
                clear hjt hk2
                go_wp2_with fail
                go_roundw
                case rel => exact ⟨k + 1, by omega, by first | (simp; done) | (simp; omega), .inr ⟨by omega, List.zipWith overB o x, g, c, by rw [show l0.length = k2 from by have := HL.out; have := HM.out; omega], HN.out, by rw [HLZ.out]; have := HL.out; have := HM.out; omega, ho4.out.bel blw⟩, blw⟩
                case measure => simp [intOf]; omega
    · obtain rfl : k = N := by omega
      have hlt2 : ¬ ((k : Int) < k) := by omega
      rcases hst with ⟨rfl, _⟩ | ⟨_, o, g, c, rfl, hH, hol, ho1⟩
      · omega
      have hR2 : R = (0, o) := hidH_end (by rw [hN]; exact hH)
      subst hR2
      clear hr hl h0 H0 HH hH hlt
      go_wp2
      (with_reducible show bodyPost _ _ _ _ _ _); refine bodyPost_ret (by simp [results, Tryz.results39, go_sem, *]; first | done | rfl) rfl ?_
      exact ⟨_, c, by rw [hol], ho1.row, hb_wr⟩
end Go.Proofs.YtjbfaaolfonmaaaGreat

