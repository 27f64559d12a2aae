/- What a walk may ask of the library's own variables; the library's contracts in the form of my walks. -/
import Derived.Test.YtjgmjnjpgdadhaaGreatDoorShelf
import Derived.Test.YtjgmjnjpgdadhaaGreatDoorNumber
import Derived.Test.YtjgmjnjpgdadhaaGreatDoorKCalm
import Derived.Test.YtjgmjnjpgdadhaaGreatDoorKNum
import Derived.Test.YtjgmjnjpgdadhaaGreatDoorCutLaw
import Derived.Shelf.Strconv.ErrVarAll
namespace Go.Proofs.YtjgmjnjpgdadhaaGreatDoor
open Go.RowKit Go Go.Shelf

/-- The library's variables hold what start-up lays. -/
structure Std (w : World) : Prop where
  tab : Lib.TabIs Tryz.prog w "internal/strconv.uint64pow10" .u64 Lib.pow10Tab
  syn : ∃ tp p, w.var? Tryz.prog "strconv.ErrSyntax" = some #[.iface tp p]
  ran : ∃ tp p, w.var? Tryz.prog "strconv.ErrRange" = some #[.iface tp p]
  max : ∃ m, w.cell? ⟨6, 0, none⟩ = some (.int .i64 m)

theorem var_below {B g : Nat} {W W' : World} {n : String} {cs : Array Value} (h : Below B W W') (hg : Tryz.prog.globalNamed n = some g) (hgB : g < B) (hv : W.var? Tryz.prog n = some cs) : W'.var? Tryz.prog n = some cs := by
  unfold World.var? at hv ⊢
  rw [hg] at hv ⊢
  simp only [Option.bind_some] at hv ⊢
  rw [h.block g hgB]
  exact hv

theorem g_tab : Tryz.prog.globalNamed "internal/strconv.uint64pow10" = some 5 := by kernel_rfl
theorem g_syn : Tryz.prog.globalNamed "strconv.ErrSyntax" = some 3 := by kernel_rfl
theorem g_ran : Tryz.prog.globalNamed "strconv.ErrRange" = some 4 := by kernel_rfl

theorem var_lt {w : World} {n : String} {g : Nat} {cs : Array Value} (hg : Tryz.prog.globalNamed n = some g) (h : w.var? Tryz.prog n = some cs) : g < w.heap.size := by
  unfold World.var? at h
  rw [hg] at h
  simp only [Option.bind_some] at h
  rcases Nat.lt_or_ge g w.heap.size with k | k
  · exact k
  · rw [Array.getElem?_eq_none k] at h; cases h
theorem cell_lt {w : World} {b o : Nat} {v : Value} (h : w.cell? ⟨b, o, none⟩ = some v) : b < w.heap.size := by
  unfold World.cell? at h
  rcases Nat.lt_or_ge b w.heap.size with k | k
  · exact k
  · simp [Array.getElem?_eq_none k] at h
theorem Std.below {w w' : World} (h : Std w) (hb : Below w.heap.size w w') : Std w' := by
  refine ⟨var_below hb g_tab (var_lt g_tab h.tab) h.tab, ?_, ?_, ?_⟩
  · obtain ⟨tp, p, e⟩ := h.syn; exact ⟨tp, p, var_below hb g_syn (var_lt g_syn e) e⟩
  · obtain ⟨tp, p, e⟩ := h.ran; exact ⟨tp, p, var_below hb g_ran (var_lt g_ran e) e⟩
  · obtain ⟨m, e⟩ := h.max; exact ⟨m, by rw [hb.cell (p := ⟨6, 0, none⟩) (cell_lt e)]; exact e⟩

theorem below_grow (w : World) (k : Nat) (os : Array Obj) : Below w.heap.size w (Go.Sort.grow (w.drewN k) os) := by
  have hd : Below w.heap.size w (w.drewN k) := bl_drewN (Below.refl _ _)
  refine hd.trans ⟨rfl, rfl, rfl, by simp [Go.Sort.grow], fun i hi => ?_⟩
  have hs : i < (w.drewN k).heap.size := Nat.lt_of_lt_of_le hi hd.size
  show ((w.drewN k).heap ++ os)[i]? = _
  rw [Array.getElem?_append_left hs]

theorem below_bytes (w : World) (e : TypeId) (t : ByteArray) : Below w.heap.size w (Lib.bytesWorld w e t) := by
  unfold Lib.bytesWorld
  have h1 : Below w.heap.size w (w.drew.alloc (.cells (Lib.bytesCells w e t) e)) := ((Below.refl _ w).drew).alloc (Nat.le_refl _) _
  refine h1.trans ⟨rfl, rfl, rfl, by simp [World.freeze], fun i hi => ?_⟩
  show (Array.modify _ _ _)[i]? = _
  rw [Array.getElem?_modify, if_neg (by show ¬ w.heap.size = i; omega)]

theorem itoa_any (n : Int) (w : World) (h : Std w) (h0 : -9223372036854775808 ≤ n) (h1 : n ≤ 9223372036854775807) :
    Calls Tryz.prog 36 #[.int .i64 n] w fun e w' => e = .returned (.string ⟨(Lib.itoa n).toArray⟩) ∧ Below w.heap.size w w' :=
  (Tryz.strconv_Itoa n h0 h1 w h.tab).mono fun _ _ ⟨he, k, os, hw⟩ => ⟨he, by rw [hw]; exact below_grow w k os⟩

theorem atoi_ok (s : ByteArray) (v : Int) (w : World) (hs : s.size ≤ 1000000) (h : Lib.atoiAll s.data.toList = .ok v) :
    Calls Tryz.prog 45 #[.string s] w fun e w' => e = .returned (.tuple #[.int .i64 v, .nilIface]) ∧ Below w.heap.size w w' :=
  (Tryz.strconv_Atoi_ok s (by omega) v h w).mono fun _ _ ⟨he, hw⟩ => ⟨he, by
    rcases hw with rfl | ⟨t, rfl⟩
    · exact Below.refl _ _
    · exact below_bytes _ _ _⟩

/-- An error of reading a number: the number beside it, and where it lies, are left open. -/
def AtoiBad (w : World) (e : Ending) (w' : World) : Prop := ∃ (v : Int) (t N : Nat), e = .returned (.tuple #[.int .i64 v, .iface t (.pointer (some ⟨N, 0, none⟩))]) ∧ Below w.heap.size w w'
theorem atoi_bad (s : ByteArray) (w : World) (hS : Std w) (hs : s.size ≤ 1000000) (h : ∀ v, Lib.atoiAll s.data.toList ≠ .ok v) :
    Calls Tryz.prog 45 #[.string s] w (AtoiBad w) := by
  cases ha : Lib.atoiAll s.data.toList
  · exact absurd ha (h _)
  · obtain ⟨tp, p, e⟩ := hS.syn
    have t : Calls Tryz.prog 45 #[.string s] w fun e w' => ∃ N, e = .returned (.tuple #[.int .i64 0, .iface 131 (.pointer (some ⟨N, 0, none⟩))]) ∧ w.heap.size ≤ N ∧ w'.heap[N]? = some (.cells #[.string ⟨#[65, 116, 111, 105]⟩, .string s, .iface tp p] 154 (0, 0)) ∧ Below w.heap.size w w' :=
      Any.strconv_Atoi_syntax_var Tryz.laysC172 s (by omega) ha tp p w e
    exact t.mono fun _ _ ⟨N, he, _, _, hb⟩ => ⟨_, _, N, he, hb⟩
  · obtain ⟨tp, p, e⟩ := hS.ran
    exact (Tryz.strconv_Atoi_range_var s (by omega) ha tp p w e).mono fun _ _ ⟨N, he, _, _, hb⟩ => ⟨_, _, N, he, hb⟩

/-- A word of a text: what becomes of it. -/
theorem word_cases (x : ByteArray) (d : Nat) (hd : d ≤ 17) :
    (∃ v, numL x.data.toList d = some v ∧ Lib.atoiAll x.data.toList = .ok v ∧ Lib.itoa v = x.data.toList ∧ (Lib.trimPrefix x.data.toList [45]).length ≤ d) ∨
    (numL x.data.toList d = none ∧ ((∀ v, Lib.atoiAll x.data.toList ≠ .ok v) ∨ (∃ v, Lib.atoiAll x.data.toList = .ok v ∧ Lib.itoa v ≠ x.data.toList) ∨
      (∃ v, Lib.atoiAll x.data.toList = .ok v ∧ Lib.itoa v = x.data.toList ∧ d < (Lib.trimPrefix x.data.toList [45]).length))) := by
  cases hn : numL x.data.toList d with
  | some v =>
    obtain ⟨h1, h2, h3⟩ := (ok_iff _ d hd v).2 hn
    exact .inl ⟨v, rfl, h1, h2, h3⟩
  | none =>
    refine .inr ⟨rfl, ?_⟩
    cases ha : Lib.atoiAll x.data.toList
    case ok v =>
      by_cases h2 : Lib.itoa v = x.data.toList
      · by_cases h3 : (Lib.trimPrefix x.data.toList [45]).length ≤ d
        · have := (ok_iff _ d hd v).1 ⟨ha, h2, h3⟩
          rw [hn] at this; cases this
        · exact .inr (.inr ⟨v, rfl, h2, by omega⟩)
      · exact .inr (.inl ⟨v, rfl, h2⟩)
    all_goals exact .inl (fun v h => by cases h)

theorem atoi_bounds {l : List UInt8} {v : Int} (h : Lib.atoiAll l = .ok v) : -9223372036854775808 ≤ v ∧ v ≤ 9223372036854775807 := by
  have := Lib.atoiAll_bounds h
  omega

/-- The numeral of a word that was read: the word itself. -/
theorem itoa_same (x : ByteArray) (v : Int) (w : World) (hS : Std w) (ha : Lib.atoiAll x.data.toList = .ok v) (h : Lib.itoa v = x.data.toList) :
    Calls Tryz.prog 36 #[.int .i64 v] w fun e w' => e = .returned (.string x) ∧ Below w.heap.size w w' := by
  have b := atoi_bounds ha
  have t := itoa_any v w hS b.1 b.2
  rw [h] at t
  exact t
theorem itoa_other (x : ByteArray) (v : Int) (ha : Lib.atoiAll x.data.toList = .ok v) (h : Lib.itoa v ≠ x.data.toList) :
    ∃ y : ByteArray, (y.toList == x.toList) = false ∧ ∀ w, Std w → Calls Tryz.prog 36 #[.int .i64 v] w fun e w' => e = .returned (.string y) ∧ Below w.heap.size w w' := by
  have b := atoi_bounds ha
  exact ⟨⟨(Lib.itoa v).toArray⟩, by
    rw [beq_eq_false_iff_ne, Lib.toList_data, Lib.toList_data]
    exact fun e => h e, fun w hS => itoa_any v w hS b.1 b.2⟩
theorem trim_any (x : ByteArray) :
    ∃ z : ByteArray, z.size = (Lib.trimPrefix x.data.toList [45]).length ∧ ∀ w, Calls Tryz.prog 46 #[.string x, .string { data := #[45] }] w fun e w' => e = .returned (.string z) ∧ w' = w :=
  ⟨⟨(Lib.trimPrefix x.data.toList [45]).toArray⟩, by show (Lib.trimPrefix x.data.toList [45]).toArray.size = _; simp, fun w => Tryz.strings_TrimPrefix x { data := #[45] } w⟩
end Go.Proofs.YtjgmjnjpgdadhaaGreatDoor
