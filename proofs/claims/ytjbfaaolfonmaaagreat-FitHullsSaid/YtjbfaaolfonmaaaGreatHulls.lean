/- The statement on hulls: its walk. -/
import Derived.Test.YtjbfaaolfonmaaaGreatAwake7
import Derived.Test.YtjbfaaolfonmaaaGreatCuts
import Derived.Test.YtjbfaaolfonmaaaGreatKHalf
import Derived.Test.YtjbfaaolfonmaaaGreatRHull
import Derived.Test.YtjbfaaolfonmaaaGreatOwnTab
namespace Go.Proofs.YtjbfaaolfonmaaaGreat
open Go Go.Sort Go.RowKit

theorem boxes_row : ∃ i, (Tryz.prog.info? 26) = some i ∧ i.zero = some (.slice none 0 0) ∧ i.size = 1 ∧ i.bytes = 24 := info_parts (by kernel_rfl)
theorem slice_cell (p : Option Addr) (n c : Nat) : ∀ u ∈ [Value.slice p n c], u.oneCell' = true := by intro u hu; simp at hu; subst hu; rfl
theorem hull_own {LL : List (List Box)} {w0 w : World} {V : Value} (h : OwnTab LL w0 V LL.length w) (h0 : LL.length = 0 → V = .slice none 0 0) (hn : LL.length ≤ 1000) (hl : ∀ ls ∈ LL, ls.length ≤ 1000) :
    Calls Tryz.prog 38 #[V] w fun E w' => HullG (hullM LL) w E w' := by
  cases LL with
  | nil => rw [h0 rfl]; exact Hull_nil w
  | cons l LL =>
    obtain ⟨g, cap, rfl, ht⟩ := h.tab (by simp)
    exact HullOf_walk ⟨g, 0, none⟩ l (l :: LL) cap rfl hn hl w ht
theorem hull_ref {LL : List (List Box)} {pa : Option Addr} {cap : Nat} (hp : pa = none → LL.length = 0 ∧ cap = 0) (hn : LL.length ≤ 1000) (hl : ∀ ls ∈ LL, ls.length ≤ 1000) (w : World) (hr : Tab pa LL w) :
    Calls Tryz.prog 39 #[.slice pa LL.length cap] w fun E w' => HullG (hullM LL) w E w' := by
  cases pa with
  | none =>
    obtain ⟨h1, rfl⟩ := hp rfl
    obtain rfl : LL = [] := List.length_eq_zero_iff.1 h1
    exact rHull_nil w
  | some a =>
    cases LL with
    | nil =>
      go_enter Tryz.func39, Tryz.ntmps39
      repeat' (first | go_values | go_skip | go_guarded | go_step | go_upon | (simp only []; go_simp))
      go_ret2
      exact hullG_none blw
    | cons l LL => exact rHullOf_walk a l (l :: LL) cap rfl hn hl w hr
theorem hull_len (LL : List (List Box)) (hl : ∀ ls ∈ LL, ls.length ≤ 8) : (hullM LL).2.length ≤ 8 := by
  have go : ∀ (ls : List (List Box)) (o : List Box), o.length ≤ 8 → (hullGo o ls).2.length ≤ 8 := by
    intro ls
    induction ls with
    | nil => intro o h; exact h
    | cons x ls ih =>
      intro o h
      unfold hullGo
      split
      · simp
      · split
        · simp
        · split
          · exact ih _ (by rw [List.length_zipWith]; omega)
          · simp
  cases LL with
  | nil => simp [hullM]
  | cons l LL => exact go _ _ (hl l (by simp))

set_option maxRecDepth 100000 in
set_option maxHeartbeats 8000000 in
theorem fitHulls_any (pa : Option Addr) (LL : List (List Box)) (cap : Nat) (hp : pa = none → LL.length = 0 ∧ cap = 0) (w : World) (hr : Tab pa LL w) :
    Calls Tryz.prog 7 #[.slice pa LL.length cap] w fun E w' => E = .returned (.bool true) ∧ Below w.heap.size w w' := by
  by_cases h6 : 6 < LL.length
  · have h6' : (6 : Int) < LL.length := by omega
    clear hr hp
    go_enter Tryz.func7, Tryz.ntmps7
    go_wp2_with fail
    refine (awake7_any _).mono ?_
    rintro e w1 ⟨rfl, hb_w1⟩
    have hs_w1 := hb_w1.size
    (try simp at hs_w1)
    repeat' (first | go_values | go_skip | go_guarded | go_step | go_upon | (simp only []; go_simp))
    go_ret
    exact ⟨rfl, blw⟩
  have h6' : ¬ ((6 : Int) < LL.length) := by omega
  have HR := Lib.hid (And.intro hr hp)
  have RH := Lib.hid (fun (hl : ∀ ls ∈ LL, ls.length ≤ 1000) w' (h : Below w.heap.size w w') => hull_ref (cap := cap) hp (by omega) hl w' (hr.bel h))
  have FH := Lib.hid (fun (V : Value) (h0 : LL.length = 0 → V = .slice none 0 0) (hl : ∀ ls ∈ LL, ls.length ≤ 1000) w' (h : OwnTab LL w V LL.length w') => hull_own h h0 (by omega) hl)
  have HLEN := Lib.hid (hull_len LL)
  obtain ⟨M, hM⟩ : ∃ M, hullM LL = M := ⟨_, rfl⟩
  rw [hM] at RH FH HLEN
  clear hr hp hM
  obtain ⟨q, H⟩ := M
  simp only at HLEN
  have BS := Lib.hid (fun p1 p2 c1 c2 (h : H.length ≤ 8) w h1 h2 => boxes_same p1 p2 H c1 c2 (by omega) w h1 h2)
  obtain ⟨N, hN⟩ : ∃ N, LL.length = N := ⟨_, rfl⟩
  rw [hN] at h6' ⊢
  go_enter Tryz.func7, Tryz.ntmps7
  go_wp2_with fail
  refine (awake7_any _).mono ?_
  rintro e w0 ⟨rfl, hb_w0⟩
  have hs_w0 := hb_w0.size
  go_wp2_with fail
  go_loopw [3, 4] (fun V i wr => ∃ k : Nat, k ≤ N ∧ i = .int .i64 k ∧ OwnTab LL w V k wr ∧ (k = 0 → V = .slice none 0 0) ∧ (∀ j ls, j < k → LL[j]? = some ls → ls.length ≤ 8)) (fun _ i _ => N - (intOf i).toNat)
  case atStart => exact ⟨0, by omega, rfl, OwnTab.nil LL w _ blw, fun _ => rfl, fun j ls h => by omega⟩
  case round =>
    obtain ⟨k, hk, rfl, hT, hV, h8⟩ := hrel
    obtain ⟨hr, hp⟩ := HR.out
    have hb_wr := hT.below
    by_cases hlt : k < N
    · obtain ⟨x, hx⟩ : ∃ x, LL[k]? = some x := ⟨_, List.getElem?_eq_getElem (by omega)⟩
      obtain ⟨a, q', cx, rfl, ex0, hqn, rx⟩ := (hr.bel hb_wr).get k x hx
      have hlt2 : (k : Int) < N := by omega
      have HV := Lib.hid (And.intro hT (And.intro hV (And.intro h8 hx)))
      clear hr hp hT hV h8
      by_cases h9 : 8 < x.length
      · have h9' : (8 : Int) < x.length := by omega
        clear rx hqn hx
        generalize x.length = m at *
        go_wp2
        (with_reducible show bodyPost _ _ _ _ _ _); refine bodyPost_ret (by simp [results, Tryz.results7, go_sem, *]; first | done | rfl) rfl ?_
        exact ⟨rfl, blw⟩
      · have h9' : ¬ ((8 : Int) < x.length) := by omega
        have CP := Lib.hid (fun w hr => copy_all q' x cx hqn (by omega) w hr)
        have RX := Lib.hid rx
        have H9 := Lib.hid h9
        clear rx hqn hx h9
        obtain ⟨m, hm⟩ : ∃ m, x.length = m := ⟨_, rfl⟩
        rw [hm] at h9' ex0 CP
        have HM := Lib.hid hm
        clear hm
        go_wp2_with fail
        refine (CP.out _ (RX.out.bel blw)).mono ?_
        rintro E w2 ⟨g, c, rfl, ho, hb_w2⟩
        have hT2 := HV.out.1.bel (show Below wr.heap.size wr w2 from blw)
        have hVB := HV.out.1.lt
        obtain ⟨xs, hX⟩ := hT2
        have hown := hX.1
        have hRow := ho.row
        have hgl := ho.lo
        have hgh := ho.hi
        have hwl := hb_wr.size
        have hsz := hb_w2.size
        (try simp at hgl)
        (try simp at hsz)
        have HX := Lib.hid (And.intro hX (And.intro hRow (And.intro hVB (And.intro hgl (And.intro hgh hwl)))))
        obtain ⟨ii, hi0, hi1, hi2, hi3⟩ := boxes_row
        have hkm : k + 1 ≤ maxLen := by unfold maxLen; omega
        have hkb : (k + 1) * 24 ≤ 140737488355328 := by omega
        have HC := Lib.hid (And.intro hkm hkb)
        clear hX hRow hVB ho hkm hkb
        go_wp2_with (at_builtin; refine wpList_mark ?_)
        refine wpList_append_own_at _ rfl _ _ 82 rfl w.heap.size 26 ii _ 1 24 Tryz.underlying82 hi0 hi1 hi2 hi3 rfl (by decide) u3 k xs rfl (hown.alloc _) ⟨_, 0, none⟩ 1 1 [.slice (some ⟨g, 0, none⟩) m c] rfl rfl (cell_one_new _ _ _) (slice_cell _ _ _) HC.out.1 HC.out.2 (by have := HX.out.2.2.2.2.2; first | omega | (simp; omega)) ?_
        intro V2 w3 hown2 hgrow hnil hloc
        have hT3 : OwnTab LL w V2 (k + 1) w3 := by
          obtain ⟨hX, hRow, hVB, hgl, hgh, hwl⟩ := HX.out
          have hm := HM.out
          subst hm
          exact OwnTab.add (M := wr.heap.size) HV.out.2.2.2 hRow (by omega) hgh (by omega) (fun b hb => (hVB b hb).2) hX hown2 hgrow hloc
        have hT3 := Lib.hid hT3
        clear hown hown2 hgrow hnil hloc hgl hgh hi0 hi1 hi2 hi3 HX HC
        go_wp2_with fail
        go_roundw
        case rel =>
          refine ⟨k + 1, by omega, by first | (simp; done) | (simp; omega), hT3.out, fun h => by omega, fun j ls hj hl => ?_⟩
          by_cases hjk : j < k
          · exact HV.out.2.2.1 j ls hjk hl
          · obtain rfl : j = k := by omega
            rw [HV.out.2.2.2] at hl
            cases hl
            have := H9.out
            omega
        case measure => simp [intOf]; omega
    · obtain rfl : k = N := by omega
      have hlt2 : ¬ ((k : Int) < k) := by omega
      have hl8 : ∀ ls ∈ LL, ls.length ≤ 8 := fun ls hls => by
        obtain ⟨j, hj⟩ := List.getElem?_of_mem hls
        exact h8 j ls (by have := (List.getElem?_eq_some_iff.1 hj).1; omega) hj
      have hl1 : ∀ ls ∈ LL, ls.length ≤ 1000 := fun ls hls => by have := hl8 ls hls; omega
      have HU := HLEN.out hl8
      have FH := Lib.hid (FH.out u3 (fun h => hV (by omega)) hl1)
      have RH := Lib.hid (RH.out hl1)
      have BS := Lib.hid (fun p1 p2 c1 c2 => BS.out p1 p2 c1 c2 HU)
      rw [hN] at FH RH
      have HT := Lib.hid hT
      clear hr hp hT hV h8 hl8 hl1 HLEN hlt HR
      go_wp2_with fail
      refine (FH.out _ (HT.out.bel blw)).mono ?_
      rintro E w2 ⟨p1, c1, rfl, hR1, hb_w2⟩
      have hR1 := Lib.hid hR1
      go_wp2_with fail
      refine (RH.out _ blw).mono ?_
      rintro E w3 ⟨p2, c2, rfl, hR2, hb_w3⟩
      have hR1 := Lib.hid (hR1.out.bel (show Below w2.heap.size w2 w3 from blw))
      have hR2 := Lib.hid hR2
      repeat' (first | go_values | go_skip | go_guarded | go_step | go_upon | (simp only []; go_simp))
      refine (BS.out p1 p2 c1 c2 _ (hR1.out.bel blw) (hR2.out.bel blw)).mono ?_
      rintro E w4 ⟨rfl, hb_w4⟩
      repeat' (first | go_values | go_skip | go_guarded | go_step | go_upon | (simp only []; go_simp))
      go_ret
      exact ⟨rfl, blw⟩
end Go.Proofs.YtjbfaaolfonmaaaGreat
