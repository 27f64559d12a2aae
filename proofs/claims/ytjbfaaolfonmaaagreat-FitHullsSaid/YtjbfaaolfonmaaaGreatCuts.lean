/- The statement on halves of boxes: its walk. -/
import Derived.Test.YtjbfaaolfonmaaaGreatAwake7
import Derived.Test.YtjbfaaolfonmaaaGreatKHalf
namespace Go.Proofs.YtjbfaaolfonmaaaGreat
open Go Go.Sort Go.RowKit

/-- A copy of any row. -/
theorem copy_nil (w : World) : Calls Tryz.prog 18 #[.slice none 0 0] w fun E w' => Copied [] 0 w E w' := by
  go_enter Tryz.func18, Tryz.ntmps18
  repeat' (first | go_values | go_skip | go_guarded | go_step | go_upon | (simp only []; go_simp))
  go_ret
  exact ⟨w.heap.size, 0, rfl, ⟨Nat.le_refl _, by simp, fun j b hj => by simp at hj, fun o => by go_simp⟩, blw⟩
theorem copy_all (pa : Option Addr) (ls : List Box) (cap : Nat) (hp : pa = none → ls.length = 0 ∧ cap = 0) (hn : ls.length ≤ 1000) (w : World) (hr : Row pa ls w) :
    Calls Tryz.prog 18 #[.slice pa ls.length cap] w fun E w' => Copied ls ls.length w E w' := by
  cases pa with
  | none =>
    obtain ⟨h1, h2⟩ := hp rfl
    obtain rfl : ls = [] := List.length_eq_zero_iff.1 h1
    subst h2
    exact copy_nil w
  | some a => exact copy_any a ls cap w hr hn

/-- What a cut hands back, whatever it is. -/
def CutG (H0 H1 : List Box) (q : Int) (w : World) (E : Ending) (w' : World) : Prop := ∃ p0 c0 p1 c1, E = .returned (.tuple #[.agg #[.slice p0 H0.length c0, .slice p1 H1.length c1], .int .i64 q]) ∧ Row p0 H0 w' ∧ Row p1 H1 w' ∧ Below w.heap.size w w'
@[irreducible] def cutQ (ls : List Box) (d : Int) : Int := if inR d 0 (2 * ls.length - 1) = true then (if dLo ls d.toNat < dHi ls d.toNat then 0 else 24) else 6
@[irreducible] def cutA (ls : List Box) (d : Int) : List Box := if cutQ ls d = 0 then lowHalf ls d.toNat else []
@[irreducible] def cutB (ls : List Box) (d : Int) : List Box := if cutQ ls d = 0 then highHalf ls d.toNat else []
theorem cutG_none {q : Int} {w w' : World} (h : Below w.heap.size w w') : CutG [] [] q w (.returned (.tuple #[.agg #[.slice none 0 0, .slice none 0 0], .int .i64 q])) w' :=
  ⟨none, 0, none, 0, rfl, ⟨fun j b hj => by simp at hj⟩, ⟨fun j b hj => by simp at hj⟩, h⟩
theorem cutG_some {H0 H1 : List Box} {n : Nat} {w w' : World} {E : Ending} (h0 : H0.length = n) (h1 : H1.length = n) (h : Cut H0 H1 n w E w' (.int .i64 0)) : CutG H0 H1 0 w E w' := by
  obtain ⟨g0, c0, g1, c1, rfl, P0, P1, hb⟩ := h
  exact ⟨_, c0, _, c1, by rw [h0, h1], P0.row, P1.row, hb⟩
theorem cut_cases {ls : List Box} (hq : checkQ ls = 0) (d : Int) :
    (inR d 0 (2 * ls.length - 1) = false ∧ cutQ ls d = 6 ∧ cutA ls d = [] ∧ cutB ls d = []) ∨ ∃ (e : Nat) (b : Box), d = e ∧ ls[e / 2]? = some b ∧ BoxOk b ∧
      ((b.dlo e = b.dhi e ∧ cutQ ls d = 24 ∧ cutA ls d = [] ∧ cutB ls d = []) ∨ (b.dlo e < b.dhi e ∧ cutQ ls d = 0 ∧ cutA ls d = lowHalf ls e ∧ cutB ls d = highHalf ls e)) := by
  cases h : inR d 0 (2 * ls.length - 1)
  · have e : cutQ ls d = 6 := by unfold cutQ; rw [h]; rfl
    exact .inl ⟨rfl, e, by unfold cutA; rw [e]; rfl, by unfold cutB; rw [e]; rfl⟩
  · obtain ⟨h1, h2⟩ := inR_yes.1 h
    obtain ⟨e, rfl⟩ : ∃ e : Nat, d = e := ⟨d.toNat, by omega⟩
    have hl : e / 2 < ls.length := by omega
    have hb : ls[e / 2]? = some ls[e / 2] := List.getElem?_eq_getElem hl
    have hk := (checkQ_zero hq).1 _ (List.mem_of_getElem? hb)
    refine .inr ⟨e, _, rfl, hb, hk, ?_⟩
    have bd := dlo_bd hk e
    have ex : cutQ ls e = if (ls[e / 2]).dlo e < (ls[e / 2]).dhi e then 0 else 24 := by unfold cutQ; rw [h, if_pos rfl, Int.toNat_natCast, dLo_is hb, dHi_is hb]
    by_cases hlt : (ls[e / 2]).dlo e < (ls[e / 2]).dhi e
    · rw [if_pos hlt] at ex
      exact .inr ⟨hlt, ex, by unfold cutA; rw [ex, if_pos rfl, Int.toNat_natCast], by unfold cutB; rw [ex, if_pos rfl, Int.toNat_natCast]⟩
    · rw [if_neg hlt] at ex
      exact .inl ⟨by omega, ex, by unfold cutA; rw [ex]; rfl, by unfold cutB; rw [ex]; rfl⟩
theorem CutOf_g (a : Addr) (ls : List Box) (cap : Nat) (d : Int) (hq : checkQ ls = 0) (hn : ls.length ≤ 1000) (w : World) (hr : Row (some a) ls w) :
    Calls Tryz.prog 23 #[.slice (some a) ls.length cap, .int .i64 d] w fun E w' => CutG (cutA ls d) (cutB ls d) (cutQ ls d) w E w' := by
  rcases cut_cases hq d with ⟨h, e1, e2, e3⟩ | ⟨e, b, rfl, hb, hk, ⟨h, e1, e2, e3⟩ | ⟨h, e1, e2, e3⟩⟩
  · rw [e1, e2, e3]
    exact (CutOf_missing (some a) ls cap d hq h hn w hr).mono fun E w' ⟨h1, h2⟩ => by rw [h1]; exact cutG_none h2
  · rw [e1, e2, e3]
    exact (CutOf_break a ls cap e b hb hq (by omega) hn w hr).mono fun E w' ⟨h1, h2⟩ => by rw [h1]; exact cutG_none h2
  · rw [e1, e2, e3]
    exact (CutOf_ok a ls cap e b hb hq h hn w hr).mono fun E w' h => cutG_some (lowHalf_len ls e) (highHalf_len ls e) h
theorem rCutOf_g (a : Addr) (ls : List Box) (cap : Nat) (d : Int) (hq : checkQ ls = 0) (hn : ls.length ≤ 1000) (w : World) (hr : Row (some a) ls w) :
    Calls Tryz.prog 36 #[.slice (some a) ls.length cap, .int .i64 d] w fun E w' => CutG (cutA ls d) (cutB ls d) (cutQ ls d) w E w' := by
  rcases cut_cases hq d with ⟨h, e1, e2, e3⟩ | ⟨e, b, rfl, hb, hk, ⟨h, e1, e2, e3⟩ | ⟨h, e1, e2, e3⟩⟩
  · rw [e1, e2, e3]
    exact (rCutOf_missing (some a) ls cap d h hn w).mono fun E w' ⟨h1, h2⟩ => by rw [h1]; exact cutG_none h2
  · rw [e1, e2, e3]
    exact (rCutOf_break a ls cap e b hb h hn w hr).mono fun E w' ⟨h1, h2⟩ => by rw [h1]; exact cutG_none h2
  · rw [e1, e2, e3]
    exact (rCutOf_ok a ls cap e b hb hk h hn w hr).mono fun E w' h => cutG_some (lowHalf_len ls e) (highHalf_len ls e) h

set_option maxRecDepth 100000 in
set_option maxHeartbeats 8000000 in
theorem fitCuts_any (pa : Option Addr) (ls : List Box) (cap : Nat) (d : Int) (hp : pa = none → ls.length = 0 ∧ cap = 0) (w : World) (hr : Row pa ls w) :
    Calls Tryz.prog 6 #[.slice pa ls.length cap, .int .i64 d] w fun E w' => E = .returned (.bool true) ∧ Below w.heap.size w w' := by
  by_cases h8 : 8 < ls.length
  · have h8' : (8 : Int) < ls.length := by omega
    clear hr hp
    go_enter Tryz.func6, Tryz.ntmps6
    go_wp2_with fail
    refine (awake7_any _).mono ?_
    rintro e w1 ⟨rfl, hb_w1⟩
    have hs_w1 := hb_w1.size
    (try simp at hs_w1)
    repeat' (first | go_values | go_skip | go_guarded | go_step | go_upon | (simp only []; go_simp))
    go_ret
    exact ⟨rfl, blw⟩
  have h8' : ¬ ((8 : Int) < ls.length) := by omega
  have hn : ls.length ≤ 1000 := by omega
  have CP := Lib.hid (fun w' (h : Below w.heap.size w w') => copy_all pa ls cap hp hn w' (hr.bel h))
  have BE := Lib.hid (fun w' (h : Below w.heap.size w w') => rberr_any pa ls cap w' (hr.bel h))
  by_cases hq : checkQ ls = 0
  · obtain ⟨a, rfl⟩ : ∃ a, pa = some a := by
      cases pa with
      | none => have := (checkQ_zero hq).2.1; have := (hp rfl).1; omega
      | some a => exact ⟨a, rfl⟩
    have CU := Lib.hid (fun g c w' h => CutOf_g ⟨g, 0, none⟩ ls c d hq hn w' h)
    have WI := Lib.hid (fun g c w' h => Widest_ok ⟨g, 0, none⟩ ls c hq hn w' h)
    have RC := Lib.hid (fun w' (h : Below w.heap.size w w') => rCutOf_g a ls cap d hq hn w' (hr.bel h))
    have RW := Lib.hid (fun w' (h : Below w.heap.size w w') => rWidest_any a ls cap (checkQ_zero hq).1 hn w' (hr.bel h))
    have HA : (cutA ls d).length ≤ 1000000 ∧ (cutB ls d).length ≤ 1000000 := by
      unfold cutA cutB
      have := lowHalf_len ls d.toNat
      have := highHalf_len ls d.toNat
      constructor <;> split <;> first | omega | (simp; done) | (simp; omega)
    have BA := Lib.hid (fun p q cp cq w h1 h2 => boxes_same p q (cutA ls d) cp cq HA.1 w h1 h2)
    have BB := Lib.hid (fun p q cp cq w h1 h2 => boxes_same p q (cutB ls d) cp cq HA.2 w h1 h2)
    rw [hq] at BE
    have HQ := Lib.hid hq
    clear hr hp hq HA
    generalize cutA ls d = H0 at *
    generalize cutB ls d = H1 at *
    generalize cutQ ls d = Q at *
    generalize wideD ls = WD at *
    generalize wideQ ls = WQ at *
    go_enter Tryz.func6, Tryz.ntmps6
    go_wp2_with fail
    refine (awake7_any _).mono ?_
    rintro e w0 ⟨rfl, hb_w0⟩
    have hs_w0 := hb_w0.size
    go_wp2_with fail
    refine (CP.out _ blw).mono ?_
    rintro E w1 ⟨g, c, rfl, ho, hb_w1⟩
    have R1 := ho.row
    clear ho
    go_wp2_with fail
    refine (CU.out g c _ R1).mono ?_
    rintro E w2 ⟨p0, c0, p1, c1, rfl, A0, A1, hb_w2⟩
    clear R1
    have A0 := Lib.hid A0
    have A1 := Lib.hid A1
    go_wp2_with fail
    refine (CP.out _ blw).mono ?_
    rintro E w3 ⟨g', c', rfl, ho, hb_w3⟩
    have hs_w3 := hb_w3.size
    (try simp at hs_w3)
    obtain ⟨hz_w3_w2, hy_w3_w2, hx_w3_w2, hc_w3_w2, hf_w3_w2⟩ := bl5 hb_w3 (w2.heap.size)
    have R1 := ho.row
    clear ho
    go_wp2_with fail
    refine (WI.out g' c' _ R1).mono ?_
    rintro E w4 ⟨rfl, hb_w4⟩
    have hs_w4 := hb_w4.size
    (try simp at hs_w4)
    obtain ⟨hz_w4_w2, hy_w4_w2, hx_w4_w2, hc_w4_w2, hf_w4_w2⟩ := bl5 hb_w4 (w2.heap.size)
    clear R1
    go_wp2_with fail
    refine (BE.out _ blw).mono ?_
    rintro E w5 ⟨rfl, hb_w5⟩
    have hs_w5 := hb_w5.size
    (try simp at hs_w5)
    obtain ⟨hz_w5_w2, hy_w5_w2, hx_w5_w2, hc_w5_w2, hf_w5_w2⟩ := bl5 hb_w5 (w2.heap.size)
    go_wp2_with fail
    refine (RW.out _ blw).mono ?_
    rintro E w6 ⟨rfl, hb_w6⟩
    have hs_w6 := hb_w6.size
    (try simp at hs_w6)
    obtain ⟨hz_w6_w2, hy_w6_w2, hx_w6_w2, hc_w6_w2, hf_w6_w2⟩ := bl5 hb_w6 (w2.heap.size)
    go_wp2_with fail
    refine (RC.out _ blw).mono ?_
    rintro E w7 ⟨p2, c2, p3, c3, rfl, B0, B1, hb_w7⟩
    have hs_w7 := hb_w7.size
    (try simp at hs_w7)
    obtain ⟨hz_w7_w2, hy_w7_w2, hx_w7_w2, hc_w7_w2, hf_w7_w2⟩ := bl5 hb_w7 (w2.heap.size)
    have A0 := A0.out.bel (show Below w2.heap.size w2 w7 from blw)
    have A1 := A1.out.bel (show Below w2.heap.size w2 w7 from blw)
    have A0 := Lib.hid A0
    have A1 := Lib.hid A1
    have B0 := Lib.hid B0
    have B1 := Lib.hid B1
    go_wp2_with fail
    refine (BA.out p0 p2 c0 c2 _ (A0.out.bel blw) (B0.out.bel blw)).mono ?_
    rintro E w8 ⟨rfl, hb_w8⟩
    have hs_w8 := hb_w8.size
    (try simp at hs_w8)
    obtain ⟨hz_w8_w2, hy_w8_w2, hx_w8_w2, hc_w8_w2, hf_w8_w2⟩ := bl5 hb_w8 (w2.heap.size)
    obtain ⟨hz_w8_w7, hy_w8_w7, hx_w8_w7, hc_w8_w7, hf_w8_w7⟩ := bl5 hb_w8 (w7.heap.size)
    go_wp2_with fail
    refine (BB.out p1 p3 c1 c3 _ (A1.out.bel (show Below w7.heap.size w7 w8 from blw)) (B1.out.bel (show Below w7.heap.size w7 w8 from blw))).mono ?_
    rintro E w9 ⟨rfl, hb_w9⟩
    repeat' (first | go_values | go_skip | go_guarded | go_step | go_upon | (simp only []; go_simp))
    go_ret
    exact ⟨rfl, blw⟩
  · obtain ⟨Q, hQ⟩ : ∃ Q, checkQ ls = Q := ⟨_, rfl⟩
    have CU := Lib.hid (fun g c w' h => CutOf_err (some ⟨g, 0, none⟩) ls c d Q hQ (by rw [← hQ]; exact hq) w' h)
    have WI := Lib.hid (fun g c w' h => Widest_err (some ⟨g, 0, none⟩) ls c Q hQ (by rw [← hQ]; exact hq) w' h)
    rw [hQ] at BE hq
    have hq1 : (Q != 0) = true := by simpa using hq
    clear hr hp hq hQ
    go_enter Tryz.func6, Tryz.ntmps6
    go_wp2_with fail
    refine (awake7_any _).mono ?_
    rintro e w0 ⟨rfl, hb_w0⟩
    have hs_w0 := hb_w0.size
    go_wp2_with fail
    refine (CP.out _ blw).mono ?_
    rintro E w1 ⟨g, c, rfl, ho, hb_w1⟩
    have R1 := ho.row
    clear ho
    go_wp2_with fail
    refine (CU.out g c _ R1).mono ?_
    rintro E w2 ⟨rfl, hb_w2⟩
    clear R1
    go_wp2_with fail
    refine (CP.out _ blw).mono ?_
    rintro E w3 ⟨g', c', rfl, ho, hb_w3⟩
    have hs_w3 := hb_w3.size
    (try simp at hs_w3)
    obtain ⟨hz_w3_w2, hy_w3_w2, hx_w3_w2, hc_w3_w2, hf_w3_w2⟩ := bl5 hb_w3 (w2.heap.size)
    have R1 := ho.row
    clear ho
    go_wp2_with fail
    refine (WI.out g' c' _ R1).mono ?_
    rintro E w4 ⟨rfl, hb_w4⟩
    have hs_w4 := hb_w4.size
    (try simp at hs_w4)
    obtain ⟨hz_w4_w2, hy_w4_w2, hx_w4_w2, hc_w4_w2, hf_w4_w2⟩ := bl5 hb_w4 (w2.heap.size)
    clear R1
    go_wp2_with fail
    refine (BE.out _ blw).mono ?_
    rintro E w5 ⟨rfl, hb_w5⟩
    have hs_w5 := hb_w5.size
    (try simp at hs_w5)
    obtain ⟨hz_w5_w2, hy_w5_w2, hx_w5_w2, hc_w5_w2, hf_w5_w2⟩ := bl5 hb_w5 (w2.heap.size)
    repeat' (first | go_values | go_skip | go_guarded | go_step | go_upon | (simp only []; go_simp))
    go_ret
    exact ⟨rfl, blw⟩
end Go.Proofs.YtjbfaaolfonmaaaGreat
