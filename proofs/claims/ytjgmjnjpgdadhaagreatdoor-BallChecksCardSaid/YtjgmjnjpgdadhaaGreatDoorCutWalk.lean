/- The walk of the reference's cutting of a text. -/
import Derived.Test.YtjgmjnjpgdadhaaGreatDoorProg
import Derived.Test.YtjgmjnjpgdadhaaGreatDoorCutLaw
import Derived.Test.YtjgmjnjpgdadhaaGreatDoorKCalm
import Derived.Test.YtjgmjnjpgdadhaaGreatDoorKNum
import Derived.OwnWalk
namespace Go.Proofs.YtjgmjnjpgdadhaaGreatDoor
open Go.RowKit Go

theorem info_str : (Tryz.prog.info? 9).map (fun i => (i.zero, i.size, i.bytes)) = some (some (.string ByteArray.empty), 1, 16) := by kernel_rfl

/-- Words that a call has made: a slice of texts in a block of its own. -/
def CutPost (w : World) (ws : List (List UInt8)) (e : Ending) (w' : World) : Prop :=
  ∃ (g cap : Nat) (W : List ByteArray), e = .returned (.slice (some ⟨g, 0, none⟩) W.length cap) ∧ W.map (·.data.toList) = ws ∧ w.heap.size ≤ g ∧ g < w'.heap.size ∧ W.length ≤ cap ∧ (∀ (j : Nat) (x : ByteArray), W[j]? = some x → w'.cell? ⟨g, j, none⟩ = some (.string x)) ∧ Below w.heap.size w w'

theorem words_end {w w' : World} {W : List ByteArray} {v : Value} {ws : List (List UInt8)} (h : w'.ownsRow w.heap.size 9 1 v W.length (W.map Value.string)) (hn : 0 < W.length) (hw : W.map (·.data.toList) = ws) (hb : Below w.heap.size w w') : CutPost w ws (.returned v) w' := by
  obtain ⟨_, h2⟩ := h
  rcases h2 with ⟨_, h0⟩ | ⟨g, cap, cur, rfl, hg, hbk, hc, _, hsz, ht⟩
  · omega
  · have hl : g < w'.heap.size := by
      rcases Nat.lt_or_ge g w'.heap.size with h | h
      · exact h
      · rw [Array.getElem?_eq_none h] at hbk; cases hbk
    refine ⟨g, cap, W, rfl, hw, hg, hl, hc, fun j x hj => ?_, hb⟩
    have e1 : (cur.toList.take (W.length * 1))[j]? = some (.string x) := by rw [ht]; simp [hj]
    have hjl : j < W.length := by
      rcases Nat.lt_or_ge j W.length with h | h
      · exact h
      · rw [List.getElem?_eq_none h] at hj; cases hj
    rw [List.getElem?_take_of_lt (by omega)] at e1
    simp [World.cell?, hbk]
    simpa using e1

set_option maxRecDepth 100000 in
set_option maxHeartbeats 2000000 in
theorem Cut_any (s : ByteArray) (c : UInt8) (w : World) (hs : s.size ≤ 1000000) :
    Calls Tryz.prog 48 #[.string s, .int .u8 c.toNat] w (CutPost w (cutL c s.data.toList)) := by
  obtain ⟨i0, hi, hz0, hz1, hz2⟩ := info_parts info_str
  have hll : s.data.toList.length = s.size := by simp
  have HL := Lib.hid hll
  clear hll
  go_enter Tryz.func48, Tryz.ntmps48
  go_wp2_with fail
  go_loopw [5, 6, 7] (fun o f i wr => ∃ (k F : Nat) (W : List ByteArray), k ≤ s.size ∧ F ≤ k ∧ Hid (Cutting c s.data.toList k F (W.map (·.data.toList))) ∧ W.length ≤ k ∧ i = .int .i64 k ∧ f = .int .i64 F ∧ wr.ownsRow w.heap.size 9 1 o W.length (W.map Value.string) ∧ Below w.heap.size w wr) (fun _ _ i _ => s.size - (intOf i).toNat)
  case atStart => exact ⟨0, 0, [], by omega, by omega, Lib.hid (Cutting.start _ _), by simp, rfl, rfl, World.ownsRow_nil _ _ _ _, Below.refl _ _⟩
  case round =>
    obtain ⟨k, F, W, hk, hF, HC, hW, rfl, rfl, hown, hb⟩ := hrel
    by_cases hlt : k < s.size
    · have hlt' : k < s.data.toList.length := by rw [HL.out]; exact hlt
      have hget : s.data.toList[k] = s[k] := by rw [Array.getElem_toList]; rfl
      by_cases hc : s[k] = c
      · have HC' := Lib.hid (HC.out.cut hlt' (by rw [hget]; exact hc))
        have t1 : ((s[k].toNat : Int) == (c.toNat : Int)) = true := by rw [hc]; simp
        have hex : ((s.extract F k).data.toList) = (s.data.toList.take k).drop F := by
          rw [Lib.extract_data, List.drop_take]
        have HX := Lib.hid hex
        clear hc hget hex
        go_wp2_with (at_builtin; refine wpList_append_own _ rfl _ _ 71 rfl w.heap.size 9 i0 (.string ByteArray.empty) 1 16 Tryz.underlying71 hi hz0 hz1 hz2 rfl (by decide) _ _ _ rfl (hown.alloc _) ⟨wr.heap.size, 0, none⟩ 1 1 [.string (s.extract F k)] rfl rfl ?c1 ?c2 ?c3 ?c4 ?c5 ?_)
        case c1 =>
          intro j u hj
          match j, hj with
          | 0, hj => simp at hj; subst hj; simp [Addr.add]
        case c2 => first | rfl | (intro u hu; simp at hu; subst hu; rfl)
        case c3 => unfold maxLen; omega
        case c4 => omega
        case c5 => have := hb.size; simp; omega
        intro v' w2 hown' hgrow' _
        have hb2 : Below w.heap.size w w2 := (hb.alloc hb.size _).grown hgrow' (by have := hb.size; simp; omega) (fun j hj => (hown.lt j hj).1)
        clear hgrow' hown
        go_wp2
        go_roundw
        case rel => exact ⟨k + 1, k + 1, W ++ [s.extract F k], by omega, by omega, Lib.hid (by rw [List.map_append, List.map_singleton, HX.out]; exact HC'.out), by simp; omega, by simp, by simp, by simpa using hown', hb2⟩
        case measure => simp [intOf]; omega
      · have HC' := Lib.hid (HC.out.next hlt' (by rw [hget]; exact hc))
        have t1 : ((s[k].toNat : Int) == (c.toNat : Int)) = false := by
          rw [beq_eq_false_iff_ne]
          intro e
          exact hc (UInt8.toNat_inj.1 (by omega))
        clear hc hget
        go_wp2
        go_roundw
        case rel => exact ⟨k + 1, F, W, by omega, by omega, HC', by omega, by simp, rfl, hown, hb⟩
        case measure => simp [intOf]; omega
    · have hke : k = s.size := by omega
      have HD := Lib.hid (show cutL c s.data.toList = W.map (·.data.toList) ++ [s.data.toList.drop F] from by
        have h := HC.out
        rw [hke, ← HL.out] at h
        exact h.done)
      have hex : ((s.extract F s.size).data.toList) = s.data.toList.drop F := by
        rw [Lib.extract_data, List.take_of_length_le (by simp)]
      have HX := Lib.hid hex
      clear hex hke
      go_wp2_with (at_builtin; refine wpList_append_own _ rfl _ _ 71 rfl w.heap.size 9 i0 (.string ByteArray.empty) 1 16 Tryz.underlying71 hi hz0 hz1 hz2 rfl (by decide) _ _ _ rfl (hown.alloc _) ⟨wr.heap.size, 0, none⟩ 1 1 [.string (s.extract F s.size)] rfl rfl ?d1 ?d2 ?d3 ?d4 ?d5 ?_)
      case d1 =>
        intro j u hj
        match j, hj with
        | 0, hj => simp at hj; subst hj; simp [Addr.add]
      case d2 => first | rfl | (intro u hu; simp at hu; subst hu; rfl)
      case d3 => unfold maxLen; omega
      case d4 => omega
      case d5 => have := hb.size; simp; omega
      intro v' w2 hown' hgrow' _
      have hb2 : Below w.heap.size w w2 := (hb.alloc hb.size _).grown hgrow' (by have := hb.size; simp; omega) (fun j hj => (hown.lt j hj).1)
      have fin := words_end (W := W ++ [s.extract F s.size]) (ws := cutL c s.data.toList) (by simpa using hown') (by simp) (by rw [HD.out, List.map_append, List.map_singleton, HX.out]) hb2
      have FIN := Lib.hid fin
      clear hgrow' hown hown' fin
      go_wp2
      go_ret
      exact FIN.out
end Go.Proofs.YtjgmjnjpgdadhaaGreatDoor
