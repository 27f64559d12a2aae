/- The least boxes over several boxes: the program's walk. -/
import Derived.Test.YtjbfaaolfonmaaaGreatHullLaw
import Derived.Test.YtjbfaaolfonmaaaGreatKHalf
import Derived.Test.YtjbfaaolfonmaaaGreatKFit
import Derived.Test.YtjbfaaolfonmaaaGreatTab
import Derived.Test.YtjbfaaolfonmaaaGreatCalmTwo
namespace Go.Proofs.YtjbfaaolfonmaaaGreat
open Go Go.Sort Go.RowKit

@[go_sem high] theorem run_nil_eq2 (a : Addr) (n cap : Nat) (w : World) : (binOp .eql 26 (.slice (some a) n cap) (.slice none 0 0)).run Tryz.prog w = .ok (.bool false) w := by kernel_rfl
set_option maxHeartbeats 1000000 in
theorem clone2_any (a : Addr) (ls : List Box) (cap : Nat) (w : World) (hr : Row (some a) ls w) (hn : ls.length ≤ 1000) :
    Calls Tryz.prog 99 #[.slice (some a) ls.length cap] w fun E w' => Copied ls ls.length w E w' := by
  have hc := hr.cells
  obtain ⟨i, hi, hz0, hz1, hz2⟩ := box_info
  have hl := cellsOf_len ls
  have b1 : 0 + ls.length ≤ maxLen := by unfold maxLen; omega
  have b2 : (0 + ls.length) * 40 ≤ 140737488355328 := by omega
  have b3 : w.heap.size ≤ (w.alloc (.cells #[] 140)).heap.size := by simp
  clear hr hn
  generalize hN : ls.length = n at *
  have H := Lib.hid (And.intro hl (And.intro b1 (And.intro b2 b3)))
  clear hl b1 b2 b3
  go_enter Tryz.func99, Tryz.ntmps99
  go_wp2_with (at_builtin; refine wpList_append_own _ rfl _ _ 26 rfl w.heap.size 140 i _ 5 40 Tryz.underlying26 hi hz0 hz1 hz2 rfl (by decide) _ 0 [] rfl (World.ownsRow_made w #[] 0 (Nat.le_refl _) (by decide) rfl) a n cap (cellsOf ls) rfl H.out.1 (copy_cells hc _) (cellsOf_one ls) H.out.2.1 H.out.2.2.1 H.out.2.2.2 ?_)
  intro v' w1 hown hgrow hnil
  have K := Lib.hid (copied_of hown hgrow hnil hN)
  clear hown hgrow hnil hc hi hz0 hz1 hz2 H hN
  go_wp2
  refine bodyPost_ret (by simp [results, Tryz.results99, go_sem, *]; first | done | rfl) rfl ?_
  exact K.out

theorem over_any (a b c d : Int) (w : World) : Calls Tryz.prog 100 #[.agg #[.int .i64 a, .int .i64 b], .agg #[.int .i64 c, .int .i64 d]] w fun E w' => E = .returned (.agg #[.int .i64 (mn a c), .int .i64 (mx b d)]) ∧ Below w.heap.size w w' := by
  go_enter Tryz.func100, Tryz.ntmps100
  repeat' (first | go_values | go_skip | go_guarded | go_step | go_upon | (simp only []; go_simp))
  refine bodyPost_ret (by simp [results, Tryz.results100, go_sem, *]; first | done | rfl) rfl ?_
  exact ⟨rfl, blw⟩
theorem rhull_any (a b c d : Int) (w : World) : Calls Tryz.prog 101 #[.agg #[.int .i64 a, .int .i64 b], .agg #[.int .i64 c, .int .i64 d]] w fun E w' => E = .returned (.agg #[.int .i64 (mn a c), .int .i64 (mx b d)]) ∧ Below w.heap.size w w' := by
  go_enter Tryz.func101, Tryz.ntmps101
  repeat' (first | go_values | go_skip | go_guarded | go_step | go_upon | (simp only []; go_simp))
  refine bodyPost_ret (by simp [results, Tryz.results101, go_sem, *]; first | done | rfl) rfl ?_
  exact ⟨rfl, blw⟩
theorem own_five {w : World} {q j : Nat} {b : Box} (h : boxAt w ((⟨q, 0, none⟩ : Addr).add (j * 5)) b) : w.cell? ⟨q, j * 5, none⟩ = some (.int .i64 b.il) ∧ w.cell? ⟨q, j * 5 + 1, none⟩ = some (.int .i64 b.ih) ∧
    w.cell? ⟨q, j * 5 + 2, none⟩ = some (.int .i64 b.tl) ∧ w.cell? ⟨q, j * 5 + 3, none⟩ = some (.int .i64 b.th) ∧ w.cell? ⟨q, j * 5 + 4, none⟩ = some (.int .i64 b.lo) := by
  rw [own_at] at h
  exact h
/-- Four cells of a row of one's own turn. -/
theorem OwnBox.over {ls : List Box} {N g j : Nat} {w : World} {d b : Box} (h : OwnBox ls N g w) (hj : ls[j]? = some d) :
    OwnBox (ls.set j (overB d b)) N g ((((w.setCell ⟨g, j * 5, none⟩ (.int .i64 (mn d.il b.il))).setCell ⟨g, j * 5 + 1, none⟩ (.int .i64 (mx d.ih b.ih))).setCell ⟨g, j * 5 + 2, none⟩ (.int .i64 (mn d.tl b.tl))).setCell ⟨g, j * 5 + 3, none⟩ (.int .i64 (mx d.th b.th))) := by
  have hl : j < ls.length := (List.getElem?_eq_some_iff.1 hj).1
  have h1 := h.put (j := j) (i := 0) (b := d) (b' := ⟨mn d.il b.il, d.ih, d.tl, d.th, d.lo⟩) (v := mn d.il b.il) hj (by omega) (by intro k hk; match k, hk with | 0, _ => rfl | 1, _ => rfl | 2, _ => rfl | 3, _ => rfl | 4, _ => rfl)
  have h2 := h1.put (j := j) (i := 1) (b := ⟨mn d.il b.il, d.ih, d.tl, d.th, d.lo⟩) (b' := ⟨mn d.il b.il, mx d.ih b.ih, d.tl, d.th, d.lo⟩) (v := mx d.ih b.ih) (by rw [List.getElem?_set_self hl]) (by omega) (by intro k hk; match k, hk with | 0, _ => rfl | 1, _ => rfl | 2, _ => rfl | 3, _ => rfl | 4, _ => rfl)
  rw [List.set_set] at h2
  have h3 := h2.put (j := j) (i := 2) (b := ⟨mn d.il b.il, mx d.ih b.ih, d.tl, d.th, d.lo⟩) (b' := ⟨mn d.il b.il, mx d.ih b.ih, mn d.tl b.tl, d.th, d.lo⟩) (v := mn d.tl b.tl) (by rw [List.getElem?_set_self hl]) (by omega) (by intro k hk; match k, hk with | 0, _ => rfl | 1, _ => rfl | 2, _ => rfl | 3, _ => rfl | 4, _ => rfl)
  rw [List.set_set] at h3
  have h4 := h3.put (j := j) (i := 3) (b := ⟨mn d.il b.il, mx d.ih b.ih, mn d.tl b.tl, d.th, d.lo⟩) (b' := overB d b) (v := mx d.th b.th) (by rw [List.getElem?_set_self hl]) (by omega) (by intro k hk; match k, hk with | 0, _ => rfl | 1, _ => rfl | 2, _ => rfl | 3, _ => rfl | 4, _ => rfl)
  rw [List.set_set] at h4
  exact h4
/-- A row of rows, each one with cells. -/
structure TabS (p : Addr) (LL : List (List Box)) (w : World) : Prop where
  get : ∀ i ls, LL[i]? = some ls → ∃ h c, w.cell? (p.add i) = some (.slice (some ⟨h, 0, none⟩) ls.length c) ∧ Row (some ⟨h, 0, none⟩) ls w
theorem TabS.bel {p : Addr} {LL : List (List Box)} {w w' : World} (h : TabS p LL w) (k : Below w.heap.size w w') : TabS p LL w' :=
  ⟨fun i ls hi => by
    obtain ⟨q, c, h2, h4⟩ := h.get i ls hi
    exact ⟨q, c, (k.cell (p := p.add i) (World.block_lt_of_cell? w _ h2)).trans h2, h4.bel k⟩⟩
/-- What a hull hands back. -/
def HullG (R : Int × List Box) (w : World) (E : Ending) (w' : World) : Prop := ∃ p c, E = .returned (.tuple #[.slice p R.2.length c, .int .i64 R.1]) ∧ Row p R.2 w' ∧ Below w.heap.size w w'
theorem hullG_none {q : Int} {w w' : World} (h : Below w.heap.size w w') : HullG (q, []) w (.returned (.tuple #[.slice none 0 0, .int .i64 q])) w' := ⟨none, 0, rfl, ⟨fun j b hj => by simp at hj⟩, h⟩

set_option maxRecDepth 100000 in
set_option maxHeartbeats 8000000 in
theorem HullOf_walk (a : Addr) (l0 : List Box) (LL : List (List Box)) (cap : Nat) (h0 : LL[0]? = some l0) (hn : LL.length ≤ 1000) (hl : ∀ ls ∈ LL, ls.length ≤ 1000) (w : World) (hr : TabS a LL w) :
    Calls Tryz.prog 38 #[.slice (some a) LL.length cap] w fun E w' => HullG (hullGo l0 LL) w E w' := by
  obtain ⟨R, hR⟩ : ∃ R, hullGo l0 LL = R := ⟨_, rfl⟩
  rw [hR]
  have H0 : HidH R l0 LL 0 := hR
  have hpos : 0 < LL.length := (List.getElem?_eq_some_iff.1 h0).1
  obtain ⟨q0, c0, e0, r0⟩ := hr.get 0 l0 h0
  rw [show a.add 0 = a from by simp [Addr.add]] at e0
  have hl0 := hl l0 (List.mem_of_getElem? h0)
  have CL := Lib.hid (fun w hr => clone2_any ⟨q0, 0, none⟩ l0 c0 w hr hl0)
  have R0 := Lib.hid r0
  generalize hN : LL.length = N at *
  have n0 : ¬ ((N : Int) = 0) := by omega
  have n1 : ¬ ((2000 : Int) < N) := by omega
  have HH := Lib.hid (And.intro hr (And.intro hl (And.intro h0 hR)))
  clear hr hl h0 hR r0
  go_enter Tryz.func38, Tryz.ntmps38
  go_wp2_with fail
  refine (CL.out _ (R0.out.bel blw)).mono ?_
  rintro E w1 ⟨g, c, rfl, ho, hb_w1⟩
  go_wp2_with fail
  go_loopw [24] (fun i wr => ∃ (k : Nat) (o : List Box), k ≤ N ∧ i = .int .i64 k ∧ HidH R o LL k ∧ o.length = l0.length ∧ OwnBox o w.heap.size g wr ∧ Below w.heap.size w wr) (fun i _ => N - (intOf i).toNat)
  case atStart => exact ⟨0, l0, by omega, rfl, H0, rfl, ho, hb_w1⟩
  case round =>
    obtain ⟨k, o, hk, rfl, hH, hol, ho1, hb_wr⟩ := hrel
    clear ho
    obtain ⟨hr, hl, h0, hR⟩ := HH.out
    by_cases hlt : k < N
    · obtain ⟨x, hx⟩ : ∃ x, LL[k]? = some x := ⟨_, List.getElem?_eq_getElem (by omega)⟩
      obtain ⟨q, cx, ex0, rx⟩ := hr.get k x hx
      have ex := (hb_wr.cell (p := a.add k) (World.block_lt_of_cell? w _ ex0)).trans ex0
      clear ex0
      have hxl := hl x (List.mem_of_getElem? hx)
      have ER := Lib.hid (fun w hr => ferr_any (some ⟨q, 0, none⟩) x cx w hr)
      have RX := Lib.hid rx
      have KB := Lib.hid hb_wr
      have HO := Lib.hid (And.intro hH (And.intro hol (And.intro ho1 hx)))
      have hlt2 : (k : Int) < N := by omega
      clear hr hl h0 hR rx hH ho1 hx H0 R0 CL e0
      by_cases hq : checkQ x = 0
      · have hq' : (checkQ x == 0) = true := by simp [hq]
        have HQ := Lib.hid hq
        by_cases hn2 : x.length = o.length
        · have e1 : ((x.length : Int) == (l0.length : Int)) = true := by rw [hn2, hol]; simp
          have H1 := Lib.hid (hidO_start o x)
          have HL := Lib.hid (And.intro hn2 hol)
          rw [hq] at ER
          generalize hT : lossOk o x = T at *
          have hT := Lib.hid hT
          generalize hm : x.length = m at *
          have hm2 : (m : Int) = l0.length := by omega
          clear hq hq' hn2
          go_wp2_with fail
          refine (ER.out _ (RX.out.bel blw)).mono ?_
          rintro E w2 ⟨rfl, hb_w2⟩
          go_wp2_with fail
          go_loopw [40] (fun i wr => ∃ j : Nat, j ≤ m ∧ i = .int .i64 j ∧ HidO T o x j ∧ OwnBox (overs o x j) w.heap.size g wr ∧ Below w.heap.size w wr) (fun i _ => m - (intOf i).toNat)
          case atStart => exact ⟨0, by omega, rfl, H1.out, by rw [overs_zero]; exact HO.out.2.2.1.bel blw, blw⟩
          case round =>
            obtain ⟨j, hj, rfl, hO, ho2, hb_w3⟩ := hrel
            obtain ⟨hn2, hol2⟩ := HL.out
            have hob := overs_len (o := o) (x := x) (by omega) j
            by_cases hjt : j < m
            · obtain ⟨b, hb⟩ : ∃ b, x[j]? = some b := ⟨_, List.getElem?_eq_getElem (by omega)⟩
              obtain ⟨d, hd⟩ : ∃ d, o[j]? = some d := ⟨_, List.getElem?_eq_getElem (by omega)⟩
              obtain ⟨_, e9, hqa, hB⟩ := (RX.out.bel hb_w3).get j b hb
              cases e9
              obtain ⟨_, e9, hga, hD⟩ := ho2.row.get j d (by rw [overs_get (by omega)]; exact hd)
              cases e9
              obtain ⟨E1, E2, E3, E4, E5⟩ := own_five hB
              obtain ⟨F1, F2, F3, F4, F5⟩ := own_five hD
              rw [block_add] at hqa hga
              have hq1 : ¬ q = wr.heap.size := by simp only at hqa; omega
              have hq2 : ¬ wr.heap.size = q := by simp only at hqa; omega
              have hg1 : ¬ g = wr.heap.size := by simp only at hga; omega
              have hg3 : ¬ wr.heap.size = g := by simp only at hga; omega
              clear hB hD
              have fr := ho2.free
              have KO := Lib.hid (And.intro hO (And.intro ho2 (And.intro hb hd)))
              have hj2 : (j : Int) < m := by omega
              have hg := ho2.lo
              have hg2 := ho2.hi
              clear hO ho2 hb hd
              by_cases hc : b.lo = d.lo
              · have hc2 : (b.lo != d.lo) = false := by simp [hc]
                have HN := Lib.hid (hidO_next KO.out.1 KO.out.2.2.2 KO.out.2.2.1 hc)
                have OV := Lib.hid (overs_next KO.out.2.2.2 KO.out.2.2.1)
                obtain ⟨b0, b1, b2, b3, b4⟩ := b
                obtain ⟨d0, d1, d2, d3, d4⟩ := d
                simp only at E1 E2 E3 E4 E5 F1 F2 F3 F4 F5 hc hc2
                have hd2 := Lib.hid (show (overs o x j)[j]? = some ⟨d0, d1, d2, d3, d4⟩ from by rw [overs_get (by omega)]; exact KO.out.2.2.2)
                have hj3 : (j : Int) < l0.length := by omega
                clear hn2 hol2 hob hm2
                have A1 := Lib.hid (over_any d0 d1 b0 b1)
                have A2 := Lib.hid (over_any d2 d3 b2 b3)
                go_wp2_with fail
                first | (go_region_held3 (fun w' => w'.cell? ⟨wr.heap.size, 4, none⟩ = some (.int .i64 b4) ∧ w'.cell? ⟨g, j * 5 + 4, none⟩ = some (.int .i64 d4)) (simp [*, go_sem]) (fail)) | fail "region 17"
                go_wp2_with fail
                refine calm_moves 20 2 3 _ _ _ rfl rfl rfl rfl (by kernel_rfl) (by kernel_rfl) (by kernel_rfl) (by kernel_rfl) (fun _ _ _ _ h => h) (fun _ _ _ _ h => h) fun hG => ?_
                have hg_xg := hG (g) lto
                have hg_wr := hG (wr.heap.size) lto
                clear hG
                simp only [List.take_succ_cons, List.take_zero, List.drop_succ_cons, List.drop_zero]
                repeat (go_big_quiet_step (first | (go_at_call 100; with_reducible exact calm_call A1.out) | (go_at_call 100; with_reducible exact calm_call A2.out)))
                refine wpQuiet_nil ?_
                intro w4 hb_w4
                clear hg_xg hg_wr
                have hs_w4 := hb_w4.size
                (try simp at hs_w4)
                obtain ⟨hz_w4_xg, hy_w4_xg, hx_w4_xg, hc_w4_xg, hf_w4_xg⟩ := bl5 hb_w4 (g)
                obtain ⟨hz_w4_wr, hy_w4_wr, hx_w4_wr, hc_w4_wr, hf_w4_wr⟩ := bl5 hb_w4 (wr.heap.size)
                go_wp2_with fail
                have ho3 := (KO.out.2.1.bel (show Below wr.heap.size wr w4 from blw)).over (d := ⟨d0, d1, d2, d3, d4⟩) (b := ⟨b0, b1, b2, b3, b4⟩) hd2.out
                rw [← OV.out] at ho3
                go_roundw
                case rel => exact ⟨j + 1, by omega, by first | (simp; done) | (simp; omega), HN.out, ho3, blw⟩
                case measure => simp [intOf]; omega
              · have hTf := hidO_bad KO.out.1 KO.out.2.2.2 KO.out.2.2.1 hc
                have hc2 : (b.lo != d.lo) = true := by simp [hc]
                have hR : R = (14, []) := hidH_clash HO.out.1 HO.out.2.2.2 HQ.out (by rw [hm]; exact hn2) (hT.out.trans hTf)
                generalize b.lo = bl at *
                generalize d.lo = dl at *
                subst hR
                go_wp2_with fail
                first | (go_region_held3 (fun w' => w'.cell? ⟨wr.heap.size, 4, none⟩ = some (.int .i64 bl) ∧ w'.cell? ⟨g, j * 5 + 4, none⟩ = some (.int .i64 dl)) (simp [*, go_sem]) (fail)) | fail "region 17"
                go_wp2
                refine bodyPost_ret (by simp [results, Tryz.results38, go_sem, *]; first | done | rfl) rfl ?_
                exact hullG_none blw
            · obtain rfl : j = m := by omega
              have hTt := hidO_end hO (by omega)
              have HN := Lib.hid (hidH_next HO.out.1 HO.out.2.2.2 HQ.out (by rw [hm]; exact hn2) (hT.out.trans hTt))
              have hov : overs o x j = List.zipWith overB o x := by rw [hn2]; exact overs_end (by omega)
              rw [hov] at ho2
              have hlz : (List.zipWith overB o x).length = l0.length := by rw [List.length_zipWith]; omega
              have ho2 := Lib.hid ho2
              have hj2 : ¬ (j : Int) < j := by omega
              clear hO hTt hov hob
              go_wp2_with fail
              go_roundw
              case rel => exact ⟨k + 1, List.zipWith overB o x, by omega, by first | (simp; done) | (simp; omega), HN.out, hlz, ho2.out, hb_w3⟩
              case measure => simp [intOf]; omega
        · have hR : R = (12, []) := hidH_len HO.out.1 HO.out.2.2.2 hq hn2
          have e1 : ((x.length : Int) == (l0.length : Int)) = false := by simp; omega
          have e2 : ¬ ((x.length : Int) = (l0.length : Int)) := by omega
          rw [hq] at ER
          subst hR
          clear hq hq' hn2
          generalize x.length = m at *
          go_wp2_with fail
          refine (ER.out _ (RX.out.bel blw)).mono ?_
          rintro E w2 ⟨rfl, hb_w2⟩
          go_wp2
          refine bodyPost_ret (by simp [results, Tryz.results38, go_sem, *]; first | done | rfl) rfl ?_
          exact hullG_none blw
      · have hR : R = (checkQ x, []) := hidH_bad HO.out.1 HO.out.2.2.2 hq
        have hq' : (checkQ x == 0) = false := by simp [hq]
        generalize checkQ x = qx at *
        subst hR
        go_wp2_with fail
        refine (ER.out _ (RX.out.bel blw)).mono ?_
        rintro E w2 ⟨rfl, hb_w2⟩
        go_wp2
        refine bodyPost_ret (by simp [results, Tryz.results38, go_sem, *]; first | done | rfl) rfl ?_
        exact hullG_none blw
    · obtain rfl : k = N := by omega
      have hR2 : R = (0, o) := hidH_end (by rw [hN]; exact hH)
      have hlt2 : ¬ (k : Int) < k := by omega
      subst hR2
      clear hr hl h0 hR hH H0 R0 CL e0 hlt
      go_wp2
      refine bodyPost_ret (by simp [results, Tryz.results38, go_sem, *]; first | done | rfl) rfl ?_
      exact ⟨_, c, by rw [hol], ho1.row, hb_wr⟩
end Go.Proofs.YtjbfaaolfonmaaaGreat
