/- Joined: Part PartsAt PartsYes Parse AwakeText. -/
import Derived.Test.YticobgianbecpaaGreatDoorKStk
import Derived.Test.YticobgianbecpaaGreatDoorKAsk
import Derived.Test.YticobgianbecpaaGreatDoorKRefl
import Derived.Laws.IdiomStrings
/- A part of a stack is read: the program's walk, where the text is right. -/
namespace Go.Proofs.YticobgianbecpaaGreatDoor
open Go.RowKit Go Go.Shelf
attribute [local go_sem] Oper.semAt_some

def nmL (z : ByteArray) : ByteArray := ⟨(Lib.cut z.data.toList [58]).1.toArray⟩
def thL (z : ByteArray) : ByteArray := ⟨(Lib.cut z.data.toList [58]).2.1.toArray⟩
def vL (z : ByteArray) : Int := match Lib.atoiAll (thL z).data.toList with | .ok v => v | _ => 0
/-- A layer's text that is right. -/
structure OkL (z : ByteArray) : Prop where
  c : (Lib.cut z.data.toList [58]).2.2 = true
  s : z.size ≤ 100
  t : (thL z).size ≤ 100
  n : (nmL z).size ≤ 100
  a : Lib.atoiAll (thL z).data.toList = .ok (vL z)
  i : Lib.itoa (vL z) = (thL z).data.toList
  p : (Lib.trimPrefix (thL z).data.toList [45]).length ≤ 7
  x : Lib.containsAny (nmL z).data.toList [10, 126] = false
  g : ∀ (j : Nat) b, (nmL z).data.toList[j]? = some b → b.toNat < 128
def two (z : ByteArray) : List Value := [.string (nmL z), .int .i64 (vL z)]
def flatL (l : List (Wd OkL)) : List Value := l.flatMap fun z => two z.1
theorem flatL_snoc (l : List (Wd OkL)) (z : Wd OkL) : flatL (l ++ [z]) = flatL l ++ two z.1 := by unfold flatL; simp
theorem layer_row : ∃ i, (Tryz.prog.info? 195) = some i ∧ i.zero = some (.agg #[.string ⟨#[]⟩, .int .i64 0]) ∧ i.size = 2 ∧ i.bytes = 24 := info_parts (by kernel_rfl)
theorem keepsOthers_of {w w' : World} (h : Below w.heap.size w w') : KeepsOthers w w' := KeepsOthers.of_grownBy (row := none) ⟨h.os, h.tape, h.output, h.size, fun k hk _ => h.block k hk⟩ fun j o e => by cases e

theorem ba_of {l : List UInt8} {z : ByteArray} (h : l = z.data.toList) : (⟨l.toArray⟩ : ByteArray) = z := by subst h; cases z; rfl
theorem cell_of_heap {A C : World} {b : Nat} (h : A.heap[b]? = C.heap[b]?) (o : Nat) : A.cell? ⟨b, o, none⟩ = C.cell? ⟨b, o, none⟩ ∧ A.frozen? ⟨b, o, none⟩ = C.frozen? ⟨b, o, none⟩ := by
  unfold World.cell? World.frozen?
  dsimp only
  rw [h]
  exact ⟨rfl, rfl⟩
theorem row_kept {W W' : World} {base : Nat} {e : TypeId} {size : Nat} {v : Value} {k : Nat} {xs : List Value} {row : Option Nat} (h : W.ownsRow base e size v k xs) (hg : W.grownBy W' row) (hr : ∀ r, row = some r → ∃ o : Obj, W.heap[r]? = some o ∧ o.isCells = false) : W'.ownsRow base e size v k xs := by
  refine h.kept hg ?_
  rcases h.2 with ⟨rfl, _⟩ | ⟨g, cap, cur, rfl, _, hgb, _⟩
  · exact .inl rfl
  · refine .inr fun e' => ?_
    obtain ⟨o, ho, hc⟩ := hr g (by simpa [Value.ownBlock] using e'.symm)
    rw [hgb] at ho
    cases ho
    cases hc

/-- What a round keeps in sight: the part in block b + 2, the results in b and b + 1, its layers in a row of their own from n0 on. -/
structure PartI (b n0 : Nat) (w : World) (t : Int) (bk : Bool) (pre : List (Wd OkL)) (W : World) : Prop where
  row : ∃ v, W.cell? ⟨b + 1 + 1, 0, none⟩ = some v ∧ W.ownsRow n0 195 2 v pre.length (flatL pre)
  c1 : W.cell? ⟨b + 1 + 1, 1, none⟩ = some (.int .i64 t)
  c2 : W.cell? ⟨b + 1 + 1, 2, none⟩ = some (.bool bk)
  f : W.frozen? ⟨b + 1 + 1, 0, none⟩ = false
  r0 : W.cell? ⟨b, 0, none⟩ = some (.slice none 0 0)
  r1 : W.cell? ⟨b, 1, none⟩ = some (.int .i64 0)
  r2 : W.cell? ⟨b, 2, none⟩ = some (.bool false)
  rf0 : W.frozen? ⟨b, 0, none⟩ = false
  rf1 : W.frozen? ⟨b, 1, none⟩ = false
  rf2 : W.frozen? ⟨b, 2, none⟩ = false
  q0 : W.cell? ⟨b + 1, 0, none⟩ = some (.bool false)
  qf : W.frozen? ⟨b + 1, 0, none⟩ = false
  bel : Below w.heap.size w W
  sz : n0 ≤ W.heap.size

theorem partI_own {b n0 N : Nat} {w : World} {t : Int} {bk : Bool} (hN : w.heap.size ≤ N) : OwnFrom N (PartI b n0 w t bk) := fun s A B row h hg hr => by
  have hr' : ∀ r, row = some r → ∃ o : Obj, A.heap[r]? = some o ∧ o.isCells = false := fun r e => (hr r e).2
  obtain ⟨v, cv, rw'⟩ := h.row
  exact ⟨⟨v, cell_kept cv hg hr', row_kept rw' hg hr'⟩, cell_kept h.c1 hg hr', cell_kept h.c2 hg hr', (frozen_kept cv hg hr').trans h.f, cell_kept h.r0 hg hr', cell_kept h.r1 hg hr', cell_kept h.r2 hg hr', (frozen_kept h.r0 hg hr').trans h.rf0, (frozen_kept h.r1 hg hr').trans h.rf1,
    (frozen_kept h.r2 hg hr').trans h.rf2, cell_kept h.q0 hg hr', (frozen_kept h.q0 hg hr').trans h.qf, h.bel.grown hg h.bel.size (fun k e => Nat.le_trans hN (hr k e).1), Nat.le_trans h.sz hg.size⟩
theorem PartI.below {b n0 : Nat} {w : World} {t : Int} {bk : Bool} {pre : List (Wd OkL)} {A B : World} (h : PartI b n0 w t bk pre A) (k : Below A.heap.size A B) : PartI b n0 w t bk pre B :=
  partI_own (N := w.heap.size) (Nat.le_refl _) pre A B none h ⟨k.os, k.tape, k.output, k.size, fun j hj _ => k.block j hj⟩ fun r e => by cases e
theorem PartI.set {b n0 : Nat} {w : World} {t : Int} {bk : Bool} {pre : List (Wd OkL)} {W : World} (h : PartI b n0 w t bk pre W) {B : Nat} (h1 : b + 1 + 1 < B) (h2 : B < n0) (h3 : w.heap.size ≤ B) (u : Value) : PartI b n0 w t bk pre (W.setCell ⟨B, 0, none⟩ u) := by
  have c : ∀ k o, k ≠ B → (W.setCell ⟨B, 0, none⟩ u).cell? ⟨k, o, none⟩ = W.cell? ⟨k, o, none⟩ := fun k o hk => World.cell?_setCell_other _ _ _ _ (fun e => hk (by cases e; rfl))
  have f : ∀ k o, (W.setCell ⟨B, 0, none⟩ u).frozen? ⟨k, o, none⟩ = W.frozen? ⟨k, o, none⟩ := fun k o => World.frozen?_setCell ..
  obtain ⟨v, cv, rw'⟩ := h.row
  exact ⟨⟨v, (c _ _ (by omega)).trans cv, ownsRow_setCell_below rw' h2 u⟩, (c _ _ (by omega)).trans h.c1, (c _ _ (by omega)).trans h.c2, (f _ _).trans h.f, (c _ _ (by omega)).trans h.r0, (c _ _ (by omega)).trans h.r1, (c _ _ (by omega)).trans h.r2, (f _ _).trans h.rf0, (f _ _).trans h.rf1,
    (f _ _).trans h.rf2, (c _ _ (by omega)).trans h.q0, (f _ _).trans h.qf, h.bel.setCell (p := ⟨B, 0, none⟩) h3 u, by simpa using h.sz⟩

/-- A layer is appended. -/
theorem PartI.next {b n0 : Nat} {w : World} {t : Int} {bk : Bool} {pre : List (Wd OkL)} {W w4 : World} (h : PartI b n0 w t bk pre W) {v v' : Value} (cv : W.cell? ⟨b + 1 + 1, 0, none⟩ = some v) (row : W.ownsRow n0 195 2 v pre.length (flatL pre)) (hb : b + 3 ≤ n0) (hw : w.heap.size = b)
    (z : Wd OkL) {tmp : Obj} (hown : w4.ownsRow n0 195 2 v' (pre.length + 1) (flatL pre ++ two z.1)) (hgrow : (W.alloc tmp).grownBy w4 v.ownBlock) :
    (w4.cell? ⟨b + 1 + 1, 0, none⟩ = some v ∧ w4.frozen? ⟨b + 1 + 1, 0, none⟩ = false) ∧ PartI b n0 w t bk (pre ++ [z]) (w4.setCell ⟨b + 1 + 1, 0, none⟩ v') ∧ KeepsOthers W (w4.setCell ⟨b + 1 + 1, 0, none⟩ v') ∧
    ∀ B, b + 3 ≤ B → B + 3 ≤ n0 → Keep3 B W (w4.setCell ⟨b + 1 + 1, 0, none⟩ v') := by
  have hsz := h.sz
  have own := row.lt
  have hp : ∀ k, k < n0 → w4.heap[k]? = W.heap[k]? := fun k hk => by
    have e1 := hgrow.block k (by simp; omega) (fun e => by have := (own k e.symm).1; omega)
    exact e1.trans (Below.heap_alloc _ _ _ (by omega))
  have c4 : ∀ k o, k < n0 → w4.cell? ⟨k, o, none⟩ = W.cell? ⟨k, o, none⟩ := fun k o hk => (cell_of_heap (hp k hk) o).1
  have f4 : ∀ k o, k < n0 → w4.frozen? ⟨k, o, none⟩ = W.frozen? ⟨k, o, none⟩ := fun k o hk => (cell_of_heap (hp k hk) o).2
  have c : ∀ k o, k < n0 → ¬ (k = b + 1 + 1 ∧ o = 0) → (w4.setCell ⟨b + 1 + 1, 0, none⟩ v').cell? ⟨k, o, none⟩ = W.cell? ⟨k, o, none⟩ := fun k o hk hne => (World.cell?_setCell_other _ _ _ _ (fun e => hne (by cases e; exact ⟨rfl, rfl⟩))).trans (c4 k o hk)
  have f : ∀ k o, k < n0 → (w4.setCell ⟨b + 1 + 1, 0, none⟩ v').frozen? ⟨k, o, none⟩ = W.frozen? ⟨k, o, none⟩ := fun k o hk => (World.frozen?_setCell ..).trans (f4 k o hk)
  have ko : KeepsOthers W (w4.setCell ⟨b + 1 + 1, 0, none⟩ v') := by
    refine ((KeepsOthers.alloc W tmp).trans (KeepsOthers.of_grownBy hgrow fun j o ej hj => ?_)).trans (KeepsOthers.setCell _ _ _)
    rcases (row.alloc tmp).2 with ⟨rfl, _⟩ | ⟨g, cap, cur, rfl, _, hgb, _⟩
    · simp [Value.ownBlock] at ej
    · obtain rfl : g = j := by simpa [Value.ownBlock] using ej
      rw [hgb] at hj; cases hj; rfl
  have bel : Below w.heap.size w (w4.setCell ⟨b + 1 + 1, 0, none⟩ v') := by
    refine ((h.bel.alloc h.bel.size tmp).grown hgrow (by simp; have := h.bel.size; omega) fun j ej => ?_).setCell (p := ⟨b + 1 + 1, 0, none⟩) (by show w.heap.size ≤ b + 1 + 1; omega) v'
    have := (own j ej).1
    omega
  refine ⟨⟨(c4 _ _ (by omega)).trans cv, (f4 _ _ (by omega)).trans h.f⟩, ⟨⟨v', World.cell?_setCell_same' _ _ _ (by rw [c4 _ _ (by omega), cv]; rfl), ?_⟩, (c _ _ (by omega) (by omega)).trans h.c1, (c _ _ (by omega) (by omega)).trans h.c2, (f _ _ (by omega)).trans h.f,
    (c _ _ (by omega) (by omega)).trans h.r0, (c _ _ (by omega) (by omega)).trans h.r1, (c _ _ (by omega) (by omega)).trans h.r2, (f _ _ (by omega)).trans h.rf0, (f _ _ (by omega)).trans h.rf1, (f _ _ (by omega)).trans h.rf2, (c _ _ (by omega) (by omega)).trans h.q0, (f _ _ (by omega)).trans h.qf, bel, ?_⟩, ko, ?_⟩
  · rw [flatL_snoc, List.length_append]
    exact ownsRow_setCell_below hown (by show b + 1 + 1 < n0; omega) v'
  · have := hgrow.size
    simp at this ⊢
    omega
  · intro B h1 h2 k k1 k2 o
    exact ⟨c k o (by omega) (by omega), f k o (by omega)⟩

theorem asc2 : ∀ (j : Nat) (b : UInt8), (⟨#[10, 126]⟩ : ByteArray).data.toList[j]? = some b → b.toNat < 128 := fun j b h => by
  have h : ([10, 126] : List UInt8)[j]? = some b := h
  have := List.mem_of_getElem? h
  simp at this
  rcases this with rfl | rfl <;> decide
theorem row_slice {W : World} {base : Nat} {e : TypeId} {size : Nat} {v : Value} {k : Nat} {xs : List Value} (h : W.ownsRow base e size v k xs) : ∃ p c, v = .slice p k c := by
  rcases h.2 with ⟨rfl, rfl⟩ | ⟨g, cap, cur, rfl, _⟩
  · exact ⟨none, 0, rfl⟩
  · exact ⟨_, cap, rfl⟩
theorem row_mono {W : World} {base base' : Nat} {e : TypeId} {size : Nat} {v : Value} {k : Nat} {xs : List Value} (h : W.ownsRow base e size v k xs) (hb : base' ≤ base) : W.ownsRow base' e size v k xs :=
  ⟨h.1, h.2.imp id fun ⟨g, cap, cur, h1, h2, h3⟩ => ⟨g, cap, cur, h1, Nat.le_trans hb h2, h3⟩⟩
/-- The iterator's three variables, new. -/
theorem boxes3 (w : World) (s sep : ByteArray) : (((w.alloc (.cells #[.string s] 9)).alloc (.cells #[.string sep] 9)).alloc (.cells #[.int .i64 0] 3)).cell? ⟨w.heap.size, 0, none⟩ = some (.string s) ∧
    (((w.alloc (.cells #[.string s] 9)).alloc (.cells #[.string sep] 9)).alloc (.cells #[.int .i64 0] 3)).cell? ⟨w.heap.size + 1, 0, none⟩ = some (.string sep) ∧
    (((w.alloc (.cells #[.string s] 9)).alloc (.cells #[.string sep] 9)).alloc (.cells #[.int .i64 0] 3)).cell? ⟨w.heap.size + 2, 0, none⟩ = some (.int .i64 0) ∧
    (((w.alloc (.cells #[.string s] 9)).alloc (.cells #[.string sep] 9)).alloc (.cells #[.int .i64 0] 3)).frozen? ⟨w.heap.size, 0, none⟩ = false :=
  ⟨by go_simp, by go_simp, by go_simp, by go_simp⟩
/-- Ahead of the loop. -/
structure PreI (b : Nat) (w : World) (t : Int) (bk : Bool) (W : World) : Prop where
  c0 : W.cell? ⟨b + 1 + 1, 0, none⟩ = some (.slice none 0 0)
  c1 : W.cell? ⟨b + 1 + 1, 1, none⟩ = some (.int .i64 t)
  c2 : W.cell? ⟨b + 1 + 1, 2, none⟩ = some (.bool bk)
  f0 : W.frozen? ⟨b + 1 + 1, 0, none⟩ = false
  f1 : W.frozen? ⟨b + 1 + 1, 1, none⟩ = false
  r0 : W.cell? ⟨b, 0, none⟩ = some (.slice none 0 0)
  r1 : W.cell? ⟨b, 1, none⟩ = some (.int .i64 0)
  r2 : W.cell? ⟨b, 2, none⟩ = some (.bool false)
  rf0 : W.frozen? ⟨b, 0, none⟩ = false
  rf1 : W.frozen? ⟨b, 1, none⟩ = false
  rf2 : W.frozen? ⟨b, 2, none⟩ = false
  q0 : W.cell? ⟨b + 1, 0, none⟩ = some (.bool false)
  qf : W.frozen? ⟨b + 1, 0, none⟩ = false
  bel : Below w.heap.size w W
  sz : b + 3 ≤ W.heap.size
theorem PreI.below {b : Nat} {w : World} {t : Int} {bk : Bool} {A B : World} (h : PreI b w t bk A) (k : Below A.heap.size A B) : PreI b w t bk B := by
  have s := h.sz
  have c : ∀ j o, j < A.heap.size → B.cell? ⟨j, o, none⟩ = A.cell? ⟨j, o, none⟩ := fun j o hj => k.cell (p := ⟨j, o, none⟩) hj
  have f : ∀ j o, j < A.heap.size → B.frozen? ⟨j, o, none⟩ = A.frozen? ⟨j, o, none⟩ := fun j o hj => k.frozen (p := ⟨j, o, none⟩) hj
  exact ⟨(c _ _ (by omega)).trans h.c0, (c _ _ (by omega)).trans h.c1, (c _ _ (by omega)).trans h.c2, (f _ _ (by omega)).trans h.f0, (f _ _ (by omega)).trans h.f1, (c _ _ (by omega)).trans h.r0, (c _ _ (by omega)).trans h.r1, (c _ _ (by omega)).trans h.r2,
    (f _ _ (by omega)).trans h.rf0, (f _ _ (by omega)).trans h.rf1, (f _ _ (by omega)).trans h.rf2, (c _ _ (by omega)).trans h.q0, (f _ _ (by omega)).trans h.qf, h.bel.trans (k.mono h.bel.size), Nat.le_trans s k.size⟩
theorem PreI.times {b : Nat} {w : World} {t u : Int} {bk : Bool} {W : World} (h : PreI b w t bk W) (hw : w.heap.size ≤ b) : PreI b w u bk (W.setCell ⟨b + 1 + 1, 1, none⟩ (.int .i64 u)) := by
  have c : ∀ j o, ¬ (j = b + 1 + 1 ∧ o = 1) → (W.setCell ⟨b + 1 + 1, 1, none⟩ (.int .i64 u)).cell? ⟨j, o, none⟩ = W.cell? ⟨j, o, none⟩ := fun j o hne => World.cell?_setCell_other _ _ _ _ (fun e => hne (by cases e; exact ⟨rfl, rfl⟩))
  have f : ∀ j o, (W.setCell ⟨b + 1 + 1, 1, none⟩ (.int .i64 u)).frozen? ⟨j, o, none⟩ = W.frozen? ⟨j, o, none⟩ := fun j o => World.frozen?_setCell ..
  exact ⟨(c _ _ (by omega)).trans h.c0, World.cell?_setCell_same' _ _ _ (by rw [h.c1]; rfl), (c _ _ (by omega)).trans h.c2, (f _ _).trans h.f0, (f _ _).trans h.f1, (c _ _ (by omega)).trans h.r0, (c _ _ (by omega)).trans h.r1, (c _ _ (by omega)).trans h.r2,
    (f _ _).trans h.rf0, (f _ _).trans h.rf1, (f _ _).trans h.rf2, (c _ _ (by omega)).trans h.q0, (f _ _).trans h.qf, h.bel.setCell (p := ⟨b + 1 + 1, 1, none⟩) (by show w.heap.size ≤ b + 1 + 1; omega) _, by simpa using h.sz⟩
theorem PreI.part {b n0 : Nat} {w : World} {t : Int} {bk : Bool} {W : World} (h : PreI b w t bk W) (hn : n0 ≤ W.heap.size) : PartI b n0 w t bk [] W :=
  ⟨⟨_, h.c0, World.ownsRow_nil _ _ _ _⟩, h.c1, h.c2, h.f0, h.r0, h.r1, h.r2, h.rf0, h.rf1, h.rf2, h.q0, h.qf, h.bel, hn⟩

/-- The results are stored, the loop's own deferred calls taken away. -/
theorem PartI.done {b n0 : Nat} {w : World} {t : Int} {bk : Bool} {xs : List (Wd OkL)} {W S : World} (h : PartI b n0 w t bk xs W) {p : Option Addr} {k c D : Nat} (row : W.ownsRow n0 195 2 (.slice p k c) xs.length (flatL xs)) (hb : b + 3 ≤ n0) (hw : w.heap.size = b) (hK : W.heap[D]? = some (.deferred (some []))) (hD : n0 ≤ D)
    (hS : (((W.setCell ⟨b, 0, none⟩ (.slice p k c)).setCell ⟨b, 1, none⟩ (.int .i64 t)).setCell ⟨b, 2, none⟩ (.bool bk)).setCell ⟨b + 1, 0, none⟩ (.bool true) = S) :
    S.heap[D]? = some (.deferred (some [])) ∧ (S.putObj D (.deferred none)).cell? ⟨b, 0, none⟩ = some (.slice p k c) ∧ (S.putObj D (.deferred none)).cell? ⟨b, 1, none⟩ = some (.int .i64 t) ∧ (S.putObj D (.deferred none)).cell? ⟨b, 2, none⟩ = some (.bool bk) ∧ (S.putObj D (.deferred none)).cell? ⟨b + 1, 0, none⟩ = some (.bool true) ∧
      (S.putObj D (.deferred none)).ownsRow n0 195 2 (.slice p k c) xs.length (flatL xs) ∧ Below w.heap.size w (S.putObj D (.deferred none)) := by
  obtain ⟨_, c1, c2, f, r0, r1, r2, rf0, rf1, rf2, q0, qf, bel, sz⟩ := h
  have n1 : ¬ b = b + 1 := by omega
  have n2 : ¬ b + 1 = b := by omega
  have hK' : S.heap[D]? = some (.deferred (some [])) := by
    rw [← hS]
    exact ((((KeepsOthers.setCell W _ _).trans (KeepsOthers.setCell _ _ _)).trans (KeepsOthers.setCell _ _ _)).trans (KeepsOthers.setCell _ _ _)).same _ _ hK rfl
  have g := grownBy_putObj' S D (.deferred none)
  have hr : ∀ r, some D = some r → ∃ o : Obj, S.heap[r]? = some o ∧ o.isCells = false := fun r e => by cases e; exact ⟨_, hK', rfl⟩
  have e0 : S.cell? ⟨b, 0, none⟩ = some (.slice p k c) := by rw [← hS]; clear hS; go_simp
  have e1 : S.cell? ⟨b, 1, none⟩ = some (.int .i64 t) := by rw [← hS]; clear hS; go_simp
  have e2 : S.cell? ⟨b, 2, none⟩ = some (.bool bk) := by rw [← hS]; clear hS; go_simp
  have e3 : S.cell? ⟨b + 1, 0, none⟩ = some (.bool true) := by rw [← hS]; clear hS; go_simp
  have er : S.ownsRow n0 195 2 (.slice p k c) xs.length (flatL xs) := by
    rw [← hS]
    exact ownsRow_setCell_below (ownsRow_setCell_below (ownsRow_setCell_below (ownsRow_setCell_below row (by show b < n0; omega) _) (by show b < n0; omega) _) (by show b < n0; omega) _) (by show b + 1 < n0; omega) _
  have eb : Below w.heap.size w S := by
    rw [← hS]
    exact (((bel.setCell (p := ⟨b, 0, none⟩) (by show w.heap.size ≤ b; omega) _).setCell (p := ⟨b, 1, none⟩) (by show w.heap.size ≤ b; omega) _).setCell (p := ⟨b, 2, none⟩) (by show w.heap.size ≤ b; omega) _).setCell (p := ⟨b + 1, 0, none⟩) (by show w.heap.size ≤ b + 1; omega) _
  exact ⟨hK', cell_kept e0 g hr, cell_kept e1 g hr, cell_kept e2 g hr, cell_kept e3 g hr, ownsRow_putObj er _ hK' rfl, eb.trans (belowK_b (w := w) (Nat.le_refl _) S D _ _ (by omega) hK' rfl rfl)⟩

set_option maxRecDepth 100000 in
set_option maxHeartbeats 8000000 in
theorem part_ok (x x1 y tm : ByteArray) (bk more : Bool) (t : Int) (ws : List (Wd OkL)) (h1 : Lib.trimSuffix x.data.toList [126] = x1.data.toList) (h2 : Lib.hasSuffix x.data.toList [126] = bk) (h3 : Lib.cut x1.data.toList [42] = (y.data.toList, tm.data.toList, more))
    (hx : x.size ≤ 100) (hx1 : x1.size ≤ 100) (hy : y.size ≤ 100) (ht : tm.size ≤ 100) (hm : more = true → ¬ t = 1 ∧ Lib.atoiAll tm.data.toList = .ok t ∧ Lib.itoa t = tm.data.toList ∧ (Lib.trimPrefix tm.data.toList [45]).length ≤ 7) (hm2 : more = false → t = 1)
    (hw : Splits 44 y ws) (hl : ws.length ≤ 40) (w : World) (hS : Std w) :
    Calls Tryz.prog 95 #[.string x] w fun e w' => ∃ v, e = .returned (.tuple #[.agg #[v, .int .i64 t, .bool bk], .bool true]) ∧ w'.ownsRow w.heap.size 195 2 v ws.length (flatL ws) ∧ Below w.heap.size w w' := by
  have HS := Lib.hid hS
  have CS : ∀ w, Calls Tryz.prog 144 #[.string x, .string { data := #[126] }] w fun e w' => e = .returned (.tuple #[.string x1, .bool bk]) ∧ w' = w := fun w => by
    have c := cutSuffix_any x ⟨#[126]⟩ w (by omega)
    rw [show (⟨#[126]⟩ : ByteArray).data.toList = [126] from rfl, h2, ba_of h1] at c
    exact c
  have CT : ∀ w, Std w → Calls Tryz.prog 145 #[.string x1, .string { data := #[42] }] w fun e w' => e = .returned (.tuple #[.string y, .string tm, .bool more]) ∧ Below w.heap.size w w' := fun w h => by
    have c := cut_str x1 ⟨#[42]⟩ w h (by omega)
    rw [show (⟨#[42]⟩ : ByteArray).data.toList = [42] from rfl, h3] at c
    rw [ba_of (z := y) rfl, ba_of (z := tm) rfl] at c
    exact c
  have CS := Lib.hid CS
  have CT := Lib.hid CT
  have HM := Lib.hid hm
  have HM2 := Lib.hid hm2
  clear h1 h2 h3 hx hx1 hS hm hm2
  refine (callsIn_wide (n := 9)).1 ?_
  refine callsIn_of_wp_marks Tryz.func95 rfl trivial ?_ rfl
  simp only [Tryz.ntmps95, List.size_toArray, List.length_cons, List.length_nil, Nat.reduceAdd, Nat.reduceSub, Array.replicate_succ, Array.replicate_zero, List.push_toArray, List.append_toArray, List.nil_append, List.cons_append]
  gi_wp2_with (first
    | (refine ⟨trivial, ?_⟩; gi_at_call 144; refine (callsIn_wide.2 (CS.out _)).mono ?_; rintro e w' ⟨rfl, rfl⟩)
    | fail)
  refine ⟨trivial, ?_⟩
  gi_at_call 145
  refine (callsIn_wide.2 (CT.out _ (HS.out.below blw))).mono ?_
  rintro e w2 ⟨rfl, hb_w2⟩
  have P0 : PreI w.heap.size w 1 bk w2 := PreI.below (A := ((w.alloc (.cells #[.slice none 0 0, .int .i64 0, .bool false] 83)).alloc (.cells #[.bool false] 4)).alloc (.cells #[.slice none 0 0, .int .i64 1, .bool bk] 83))
    ⟨by go_simp, by go_simp, by go_simp, by go_simp, by go_simp, by go_simp, by go_simp, by go_simp, by go_simp, by go_simp, by go_simp, by go_simp, by go_simp, blw, by simp⟩ hb_w2
  have P := Lib.hid P0
  obtain ⟨a0, a1, a2, a3, a4, a5, a6, a7, a8, a9, aa, ab, ac, ad, ae⟩ := P0
  clear hb_w2
  cases more
  case false =>
    have e := HM2.out rfl
    subst e
    gi_wp2_with (refine ⟨trivial, ?_⟩; gi_at_call 94; refine (callsIn_wide.2 (SplitSeq_any _ _ _)).mono ?_; rintro e w' ⟨rfl, rfl⟩)
    obtain ⟨W0, hW0⟩ : ∃ W0, ((w2.alloc (.cells #[.string y] 9)).alloc (.cells #[.string ⟨#[44]⟩] 9)).alloc (.cells #[.int .i64 0] 3) = W0 := ⟨_, rfl⟩
    have hz : W0.heap.size = w2.heap.size + 3 := by rw [← hW0]; simp
    have k0 : Below w2.heap.size w2 W0 := by rw [← hW0]; exact (((Below.refl _ _).alloc (Nat.le_refl _) _).alloc (by simp) _).alloc (by simp; omega) _
    have s0 := P.out.sz
    have s1 := P.out.bel.size
    have I0 := (P.out.below k0).part (n0 := W0.heap.size) (Nat.le_refl _)
    have bx := boxes3 w2 y ⟨#[44]⟩
    rw [hW0] at bx
    obtain ⟨d0, d1, d2, d3⟩ := bx
    rw [hW0]
    clear hW0
    refine range_words1 (q := 9) (by decide) rfl (enters_of Tryz.func204 (by kernel_rfl) rfl) (split_iter 8 (by decide) w2.heap.size 44 y (by omega) ws hw W0 (by omega) d0 d1 d2 d3) keep3_t
      (fun W l o o' hl h k1 k2 => keep3_of (belowK_b (w := W0) (by omega) W l o o' hl h k1 k2)) (PartI w.heap.size W0.heap.size w 1 bk) (fun _ _ _ => False) (partI_own (by omega)) (fun _ _ _ _ _ hs _ _ => hs) (fun pre W v h => h.set (by omega) (by omega) (by omega) v) I0 ?assign ?body ?done ?stop
    case assign =>
      intro l x W K hK
      gi_wp2
      exact hK
    case stop =>
      rintro D c pre W _ h _
      exact h.elim
    case body =>
      rintro l pre z W hI hlen
      have hz2 := z.2
      have CZ : ∀ w, Std w → Calls Tryz.prog 145 #[.string z.1, .string { data := #[58] }] w fun e w' => e = .returned (.tuple #[.string (nmL z.1), .string (thL z.1), .bool true]) ∧ Below w.heap.size w w' := fun w h => by
        have c := cut_str z.1 ⟨#[58]⟩ w h (by have := hz2.s; omega)
        rw [show (⟨#[58]⟩ : ByteArray).data.toList = [58] from rfl, hz2.c] at c
        exact c
      have NZ := fun w h => number_ok (thL z.1) (vL z.1) w h hz2.t hz2.a hz2.i hz2.p
      have XZ : ∀ w, Calls Tryz.prog 147 #[.string (nmL z.1), .string { data := #[10, 126] }] w fun e w' => e = .returned (.bool false) ∧ Below w.heap.size w w' := fun w => by
        have c := containsAny_str (nmL z.1) ⟨#[10, 126]⟩ w (by have := hz2.n; omega) (by decide) hz2.g asc2
        rw [show (⟨#[10, 126]⟩ : ByteArray).data.toList = [10, 126] from rfl, hz2.x] at c
        exact c
      have HI := Lib.hid hI
      have HB := Lib.hid hI.bel
      gi_wp2_with (refine ⟨trivial, ?_⟩; gi_at_call 145; refine (CallsIn.inRound l (callsIn_wide.2 (CZ _ (HS.out.below HB.out)))).mono ?_; rintro e W1 ⟨rfl, hb1⟩)
      refine ⟨trivial, ?_⟩
      gi_at_call 146
      refine (CallsIn.inRound l (callsIn_wide.2 (NZ _ (HS.out.below (bl_call HB.out hb1))))).mono ?_
      rintro e W2 ⟨rfl, hb2⟩
      gi_wp2_with (first
        | (refine ⟨trivial, ?_⟩; gi_at_call 147; refine (CallsIn.inRound l (callsIn_wide.2 (XZ _))).mono ?_; rintro e W3 ⟨rfl, hb3⟩; have hb := bl_call (bl_call hb1 hb2) hb3; have I3 := HI.out.below hb; obtain ⟨v, cv, row⟩ := I3.row; have c1 := I3.c1; have c2 := I3.c2; have f := I3.f; have sW := hb.size)
        | (gi_at_builtin; obtain ⟨i0, hi, hz0, hz1, hz2'⟩ := layer_row; refine wpListIn_append_own _ rfl _ _ 81 rfl W0.heap.size 195 i0 _ 2 24 Tryz.underlying81 hi hz0 hz1 hz2' rfl (by decide) v pre.length (flatL pre) rfl (row.alloc _) ⟨W3.heap.size, 0, none⟩ 1 1 (two z.1) rfl rfl ?q1 ?q2 ?q3 ?q4 ?q5 ?q6))
      case q1 =>
        intro j u hj
        match j, hj with
        | 0, hj => cases hj; go_simp
        | 1, hj => cases hj; go_simp
      case q2 => simp [two, Value.oneCell']
      case q3 => unfold maxLen; omega
      case q4 => omega
      case q5 => simp; have := I3.sz; omega
      case q6 =>
        intro v' w4 hown hgrow _
        rw [← hz] at hown
        obtain ⟨g', cap', rfl⟩ := ownsRow_succ hown
        obtain ⟨⟨cv4, f4⟩, I4, ko4, k4⟩ := I3.next cv row (by omega) rfl z hown hgrow
        clear hown hgrow
        gi_wp2
        refine ⟨(keepsOthers_of hb).trans ko4, keep3_t (keep3_of (hb.mono (by have := HI.out.sz; omega))) (k4 _ (by omega) (by omega)), I4⟩
    case done =>
      rintro D xs W hD rfl hI hK
      obtain ⟨v, cv, row⟩ := hI.row
      obtain ⟨pp, pc, rfl⟩ := row_slice row
      have HD := Lib.hid (hI.done (S := _) row (by omega) rfl hK hD rfl)
      obtain ⟨_, c1, c2, f, r0, r1, r2, rf0, rf1, rf2, q0, qf, bel, sz⟩ := hI
      have n1 : ¬ w.heap.size = w.heap.size + 1 := by omega
      gi_wp2
      obtain ⟨hK', e0, e1, e2, e3, er, eb⟩ := HD.out
      refine ⟨by simp, .inl ⟨_, _, rfl, run_takeDeferred hK', ?_⟩⟩
      refine ⟨_, ?_, _, rfl, row_mono er (by omega), eb⟩
      simp [results, go_sem, e0, e1, e2, e3]
  case true =>
    obtain ⟨t1, t2, t3, t4⟩ := HM.out rfl
    have NT := fun w h => number_ok tm t w h ht t2 t3 t4
    gi_wp2_with (first
      | (refine ⟨trivial, ?_⟩; gi_at_call 146; refine (callsIn_wide.2 (NT _ (HS.out.below P.out.bel))).mono ?_; rintro e w3 ⟨rfl, hb3⟩; have P3 := P.out.below hb3; obtain ⟨b0, b1, b2, b3, b4, b5, b6, b7, b8, b9, ba, bb, bc, bd, be⟩ := P3; clear a0 a1 a2 a3 a4 a5 a6 a7 a8 a9 aa ab ac ad ae)
      | (refine ⟨trivial, ?_⟩; gi_at_call 94; refine (callsIn_wide.2 (SplitSeq_any _ _ _)).mono ?_; rintro e w' ⟨rfl, rfl⟩))
    have PV := Lib.hid ((P.out.below hb3).times (u := t) (Nat.le_refl _))
    have sV : w.heap.size + 3 ≤ (w3.setCell ⟨w.heap.size + 1 + 1, 1, none⟩ (.int .i64 t)).heap.size := PV.out.sz
    rw [show w3.heap.size = (w3.setCell ⟨w.heap.size + 1 + 1, 1, none⟩ (.int .i64 t)).heap.size from (World.size_setCell ..).symm]
    clear b0 b1 b2 b3 b4 b5 b6 b7 b8 b9 ba bb bc bd be hb3 t2 t3 t4 NT
    generalize w3.setCell ⟨w.heap.size + 1 + 1, 1, none⟩ (.int .i64 t) = V at PV sV ⊢
    obtain ⟨W0, hW0⟩ : ∃ W0, ((V.alloc (.cells #[.string y] 9)).alloc (.cells #[.string ⟨#[44]⟩] 9)).alloc (.cells #[.int .i64 0] 3) = W0 := ⟨_, rfl⟩
    have hz : W0.heap.size = V.heap.size + 3 := by rw [← hW0]; simp
    have k0 : Below V.heap.size V W0 := by rw [← hW0]; exact (((Below.refl _ _).alloc (Nat.le_refl _) _).alloc (by simp) _).alloc (by simp; omega) _
    have s0 := PV.out.sz
    have s1 := PV.out.bel.size
    have I0 := (PV.out.below k0).part (n0 := W0.heap.size) (Nat.le_refl _)
    have bx := boxes3 V y ⟨#[44]⟩
    rw [hW0] at bx
    obtain ⟨d0, d1, d2, d3⟩ := bx
    rw [hW0]
    clear hW0
    refine range_words1 (q := 9) (by decide) rfl (enters_of Tryz.func204 (by kernel_rfl) rfl) (split_iter 8 (by decide) V.heap.size 44 y (by omega) ws hw W0 (by omega) d0 d1 d2 d3) keep3_t
      (fun W l o o' hl h k1 k2 => keep3_of (belowK_b (w := W0) (by omega) W l o o' hl h k1 k2)) (PartI w.heap.size W0.heap.size w t bk) (fun _ _ _ => False) (partI_own (by omega)) (fun _ _ _ _ _ hs _ _ => hs) (fun pre W v h => h.set (by omega) (by omega) (by omega) v) I0 ?assign ?body ?done ?stop
    case assign =>
      intro l x W K hK
      gi_wp2
      exact hK
    case stop =>
      rintro D c pre W _ h _
      exact h.elim
    case body =>
      rintro l pre z W hI hlen
      have hz2 := z.2
      have CZ : ∀ w, Std w → Calls Tryz.prog 145 #[.string z.1, .string { data := #[58] }] w fun e w' => e = .returned (.tuple #[.string (nmL z.1), .string (thL z.1), .bool true]) ∧ Below w.heap.size w w' := fun w h => by
        have c := cut_str z.1 ⟨#[58]⟩ w h (by have := hz2.s; omega)
        rw [show (⟨#[58]⟩ : ByteArray).data.toList = [58] from rfl, hz2.c] at c
        exact c
      have NZ := fun w h => number_ok (thL z.1) (vL z.1) w h hz2.t hz2.a hz2.i hz2.p
      have XZ : ∀ w, Calls Tryz.prog 147 #[.string (nmL z.1), .string { data := #[10, 126] }] w fun e w' => e = .returned (.bool false) ∧ Below w.heap.size w w' := fun w => by
        have c := containsAny_str (nmL z.1) ⟨#[10, 126]⟩ w (by have := hz2.n; omega) (by decide) hz2.g asc2
        rw [show (⟨#[10, 126]⟩ : ByteArray).data.toList = [10, 126] from rfl, hz2.x] at c
        exact c
      have HI := Lib.hid hI
      have HB := Lib.hid hI.bel
      gi_wp2_with (refine ⟨trivial, ?_⟩; gi_at_call 145; refine (CallsIn.inRound l (callsIn_wide.2 (CZ _ (HS.out.below HB.out)))).mono ?_; rintro e W1 ⟨rfl, hb1⟩)
      refine ⟨trivial, ?_⟩
      gi_at_call 146
      refine (CallsIn.inRound l (callsIn_wide.2 (NZ _ (HS.out.below (bl_call HB.out hb1))))).mono ?_
      rintro e W2 ⟨rfl, hb2⟩
      gi_wp2_with (first
        | (refine ⟨trivial, ?_⟩; gi_at_call 147; refine (CallsIn.inRound l (callsIn_wide.2 (XZ _))).mono ?_; rintro e W3 ⟨rfl, hb3⟩; have hb := bl_call (bl_call hb1 hb2) hb3; have I3 := HI.out.below hb; obtain ⟨v, cv, row⟩ := I3.row; have c1 := I3.c1; have c2 := I3.c2; have f := I3.f; have sW := hb.size)
        | (gi_at_builtin; obtain ⟨i0, hi, hz0, hz1, hz2'⟩ := layer_row; refine wpListIn_append_own _ rfl _ _ 81 rfl W0.heap.size 195 i0 _ 2 24 Tryz.underlying81 hi hz0 hz1 hz2' rfl (by decide) v pre.length (flatL pre) rfl (row.alloc _) ⟨W3.heap.size, 0, none⟩ 1 1 (two z.1) rfl rfl ?q1 ?q2 ?q3 ?q4 ?q5 ?q6))
      case q1 =>
        intro j u hj
        match j, hj with
        | 0, hj => cases hj; go_simp
        | 1, hj => cases hj; go_simp
      case q2 => simp [two, Value.oneCell']
      case q3 => unfold maxLen; omega
      case q4 => omega
      case q5 => simp; have := I3.sz; omega
      case q6 =>
        intro v' w4 hown hgrow _
        rw [← hz] at hown
        obtain ⟨g', cap', rfl⟩ := ownsRow_succ hown
        obtain ⟨⟨cv4, f4⟩, I4, ko4, k4⟩ := I3.next cv row (by omega) rfl z hown hgrow
        clear hown hgrow
        gi_wp2
        refine ⟨(keepsOthers_of hb).trans ko4, keep3_t (keep3_of (hb.mono (by have := HI.out.sz; omega))) (k4 _ (by omega) (by omega)), I4⟩
    case done =>
      rintro D xs W hD rfl hI hK
      obtain ⟨v, cv, row⟩ := hI.row
      obtain ⟨pp, pc, rfl⟩ := row_slice row
      have HD := Lib.hid (hI.done (S := _) row (by omega) rfl hK hD rfl)
      obtain ⟨_, c1, c2, f, r0, r1, r2, rf0, rf1, rf2, q0, qf, bel, sz⟩ := hI
      have n1 : ¬ w.heap.size = w.heap.size + 1 := by omega
      gi_wp2
      obtain ⟨hK', e0, e1, e2, e3, er, eb⟩ := HD.out
      refine ⟨by simp, .inl ⟨_, _, rfl, run_takeDeferred hK', ?_⟩⟩
      refine ⟨_, ?_, _, rfl, row_mono er (by omega), eb⟩
      simp [results, go_sem, e0, e1, e2, e3]
end Go.Proofs.YticobgianbecpaaGreatDoor
/- The parts of a stack's text, as they lie. -/
namespace Go.Proofs.YticobgianbecpaaGreatDoor
open Go.RowKit Go Go.Shelf
attribute [local go_sem] Oper.semAt_some

def pX (x : ByteArray) : ByteArray := ⟨(Lib.trimSuffix x.data.toList [126]).toArray⟩
def pY (x : ByteArray) : ByteArray := ⟨(Lib.cut (pX x).data.toList [42]).1.toArray⟩
def pT (x : ByteArray) : ByteArray := ⟨(Lib.cut (pX x).data.toList [42]).2.1.toArray⟩
def pMore (x : ByteArray) : Bool := (Lib.cut (pX x).data.toList [42]).2.2
def pBack (x : ByteArray) : Bool := Lib.hasSuffix x.data.toList [126]
def pTimes (x : ByteArray) : Int := if pMore x = true then (match Lib.atoiAll (pT x).data.toList with | .ok v => v | _ => 0) else 1
/-- A part's text that is right. -/
structure OkP (ls : ByteArray → List (Wd OkL)) (x : ByteArray) : Prop where
  s : x.size ≤ 100
  sx : (pX x).size ≤ 100
  sy : (pY x).size ≤ 100
  st : (pT x).size ≤ 100
  m : pMore x = true → ¬ pTimes x = 1 ∧ Lib.atoiAll (pT x).data.toList = .ok (pTimes x) ∧ Lib.itoa (pTimes x) = (pT x).data.toList ∧ (Lib.trimPrefix (pT x).data.toList [45]).length ≤ 7
  w : Splits 44 (pY x) (ls x)
  l : (ls x).length ≤ 40
theorem cut_eta (l c : List UInt8) : Lib.cut l c = ((Lib.cut l c).1, (Lib.cut l c).2.1, (Lib.cut l c).2.2) := rfl
theorem partP {ls : ByteArray → List (Wd OkL)} {x : ByteArray} (h : OkP ls x) (w : World) (hS : Std w) :
    Calls Tryz.prog 95 #[.string x] w fun e w' => ∃ v, e = .returned (.tuple #[.agg #[v, .int .i64 (pTimes x), .bool (pBack x)], .bool true]) ∧ w'.ownsRow w.heap.size 195 2 v (ls x).length (flatL (ls x)) ∧ Below w.heap.size w w' :=
  part_ok x (pX x) (pY x) (pT x) (pBack x) (pMore x) (pTimes x) (ls x) rfl rfl rfl h.s h.sx h.sy h.st h.m (fun e => by unfold pTimes; rw [e]; rfl) h.w h.l w hS

/-- A part read: its text, and the slice of its layers. -/
abbrev PV (ls : ByteArray → List (Wd OkL)) := Wd (OkP ls) × Value
def three {ls : ByteArray → List (Wd OkL)} (p : PV ls) : List Value := [p.2, .int .i64 (pTimes p.1.1), .bool (pBack p.1.1)]
def flatP {ls : ByteArray → List (Wd OkL)} (l : List (PV ls)) : List Value := l.flatMap three
theorem flatP_snoc {ls : ByteArray → List (Wd OkL)} (l : List (PV ls)) (p : PV ls) : flatP (l ++ [p]) = flatP l ++ three p := by unfold flatP; simp
theorem part_row : ∃ i, (Tryz.prog.info? 83) = some i ∧ i.zero = some (.agg #[.slice none 0 0, .int .i64 0, .bool false]) ∧ i.size = 3 ∧ i.bytes = 40 := info_parts (by kernel_rfl)
/-- A list of parts lies there, each with its layers. -/
structure Parts (ls : ByteArray → List (Wd OkL)) (n0 : Nat) (W : World) (v : Value) (ps : List (PV ls)) : Prop where
  out : W.ownsRow n0 83 3 v ps.length (flatP ps)
  lay : ∀ p ∈ ps, W.ownsRow n0 195 2 p.2 (ls p.1.1).length (flatL (ls p.1.1))
theorem row_ne {W : World} {b b' : Nat} {e e' : TypeId} {s s' : Nat} {v v' : Value} {k k' : Nat} {xs xs' : List Value} (he : e ≠ e') (h : W.ownsRow b e s v k xs) (h' : W.ownsRow b' e' s' v' k' xs') (g : Nat) (hg : v.ownBlock = some g) : v'.ownBlock ≠ some g := by
  intro hg'
  rcases h.2 with ⟨rfl, _⟩ | ⟨g1, cap, cur, rfl, _, hb, _⟩
  · simp [Value.ownBlock] at hg
  rcases h'.2 with ⟨rfl, _⟩ | ⟨g2, cap', cur', rfl, _, hb', _⟩
  · simp [Value.ownBlock] at hg'
  obtain rfl : g1 = g := by simpa [Value.ownBlock] using hg
  obtain rfl : g2 = g1 := by simpa [Value.ownBlock] using hg'
  rw [hb] at hb'
  cases hb'
  exact he rfl
theorem row_but {W W' : World} {base : Nat} {e : TypeId} {size : Nat} {v : Value} {k : Nat} {xs : List Value} {row : Option Nat} (h : W.ownsRow base e size v k xs) (hg : W.grownBy W' row) (hr : ∀ g, v.ownBlock = some g → row ≠ some g) : W'.ownsRow base e size v k xs := by
  refine h.kept hg ?_
  rcases h.2 with ⟨rfl, _⟩ | ⟨g, cap, cur, rfl, _⟩
  · exact .inl rfl
  · exact .inr fun e' => hr g rfl (by simpa [Value.ownBlock] using e'.symm)
theorem Parts.kept {ls : ByteArray → List (Wd OkL)} {n0 : Nat} {W W' : World} {v : Value} {ps : List (PV ls)} (h : Parts ls n0 W v ps) {row : Option Nat} (hg : W.grownBy W' row) (hr : ∀ r, row = some r → ∃ o : Obj, W.heap[r]? = some o ∧ o.isCells = false) : Parts ls n0 W' v ps :=
  ⟨row_kept h.out hg hr, fun p hp => row_kept (h.lay p hp) hg hr⟩
theorem Parts.below {ls : ByteArray → List (Wd OkL)} {n0 : Nat} {W W' : World} {v : Value} {ps : List (PV ls)} (h : Parts ls n0 W v ps) (k : Below W.heap.size W W') : Parts ls n0 W' v ps :=
  h.kept (row := none) ⟨k.os, k.tape, k.output, k.size, fun j hj _ => k.block j hj⟩ fun r e => by cases e
theorem Parts.set {ls : ByteArray → List (Wd OkL)} {n0 : Nat} {W : World} {v : Value} {ps : List (PV ls)} (h : Parts ls n0 W v ps) {a : Addr} (ha : a.block < n0) (u : Value) : Parts ls n0 (W.setCell a u) v ps :=
  ⟨ownsRow_setCell_below h.out ha u, fun p hp => ownsRow_setCell_below (h.lay p hp) ha u⟩
theorem Parts.mono {ls : ByteArray → List (Wd OkL)} {n0 n1 : Nat} {W : World} {v : Value} {ps : List (PV ls)} (h : Parts ls n0 W v ps) (hn : n1 ≤ n0) : Parts ls n1 W v ps :=
  ⟨row_mono h.out hn, fun p hp => row_mono (h.lay p hp) hn⟩

theorem Parts.nil {ls : ByteArray → List (Wd OkL)} {n0 : Nat} {W : World} : Parts ls n0 W (.slice none 0 0) [] := ⟨World.ownsRow_nil _ _ _ _, fun p hp => by cases hp⟩
theorem ps_len {ls : ByteArray → List (Wd OkL)} {ps : List (PV ls)} {pre : List (Wd (OkP ls))} (h : ps.map Prod.fst = pre) : ps.length = pre.length := by rw [← h]; simp
/-- What a round keeps in sight. -/
structure ParseI (ls : ByteArray → List (Wd OkL)) (b n0 : Nat) (w : World) (pre : List (Wd (OkP ls))) (W : World) : Prop where
  row : ∃ v ps, ps.map Prod.fst = pre ∧ W.cell? ⟨b + 1 + 1, 0, none⟩ = some v ∧ Parts ls n0 W v ps
  f : W.frozen? ⟨b + 1 + 1, 0, none⟩ = false
  r0 : W.cell? ⟨b, 0, none⟩ = some (.slice none 0 0)
  rf : W.frozen? ⟨b, 0, none⟩ = false
  q0 : W.cell? ⟨b + 1, 0, none⟩ = some (.int .i64 0)
  qf : W.frozen? ⟨b + 1, 0, none⟩ = false
  bel : Below w.heap.size w W
  sz : n0 ≤ W.heap.size
theorem parseI_own {ls : ByteArray → List (Wd OkL)} {b n0 N : Nat} {w : World} (hN : w.heap.size ≤ N) : OwnFrom N (ParseI ls b n0 w) := fun s A B row h hg hr => by
  have hr' : ∀ r, row = some r → ∃ o : Obj, A.heap[r]? = some o ∧ o.isCells = false := fun r e => (hr r e).2
  obtain ⟨v, ps, hps, cv, rw'⟩ := h.row
  exact ⟨⟨v, ps, hps, cell_kept cv hg hr', rw'.kept hg hr'⟩, (frozen_kept cv hg hr').trans h.f, cell_kept h.r0 hg hr', (frozen_kept h.r0 hg hr').trans h.rf, cell_kept h.q0 hg hr', (frozen_kept h.q0 hg hr').trans h.qf, h.bel.grown hg h.bel.size (fun k e => Nat.le_trans hN (hr k e).1), Nat.le_trans h.sz hg.size⟩
theorem ParseI.below {ls : ByteArray → List (Wd OkL)} {b n0 : Nat} {w : World} {pre : List (Wd (OkP ls))} {A B : World} (h : ParseI ls b n0 w pre A) (k : Below A.heap.size A B) : ParseI ls b n0 w pre B :=
  parseI_own (N := w.heap.size) (Nat.le_refl _) pre A B none h ⟨k.os, k.tape, k.output, k.size, fun j hj _ => k.block j hj⟩ fun r e => by cases e
theorem ParseI.set {ls : ByteArray → List (Wd OkL)} {b n0 : Nat} {w : World} {pre : List (Wd (OkP ls))} {W : World} (h : ParseI ls b n0 w pre W) {B : Nat} (h1 : b + 1 + 1 < B) (h2 : B < n0) (h3 : w.heap.size ≤ B) (u : Value) : ParseI ls b n0 w pre (W.setCell ⟨B, 0, none⟩ u) := by
  have c : ∀ k o, k ≠ B → (W.setCell ⟨B, 0, none⟩ u).cell? ⟨k, o, none⟩ = W.cell? ⟨k, o, none⟩ := fun k o hk => World.cell?_setCell_other _ _ _ _ (fun e => hk (by cases e; rfl))
  have f : ∀ k o, (W.setCell ⟨B, 0, none⟩ u).frozen? ⟨k, o, none⟩ = W.frozen? ⟨k, o, none⟩ := fun k o => World.frozen?_setCell ..
  obtain ⟨v, ps, hps, cv, rw'⟩ := h.row
  exact ⟨⟨v, ps, hps, (c _ _ (by omega)).trans cv, rw'.set h2 u⟩, (f _ _).trans h.f, (c _ _ (by omega)).trans h.r0, (f _ _).trans h.rf, (c _ _ (by omega)).trans h.q0, (f _ _).trans h.qf, h.bel.setCell (p := ⟨B, 0, none⟩) h3 u, by simpa using h.sz⟩

/-- A part is appended. -/
theorem ParseI.next {ls : ByteArray → List (Wd OkL)} {b n0 : Nat} {w : World} {pre : List (Wd (OkP ls))} {W w4 : World} (h : ParseI ls b n0 w pre W) {v v' : Value} {ps : List (PV ls)} (hps : ps.map Prod.fst = pre) (cv : W.cell? ⟨b + 1 + 1, 0, none⟩ = some v) (par : Parts ls n0 W v ps) (hb : b + 3 ≤ n0) (hw : w.heap.size = b)
    (p : PV ls) (hp : W.ownsRow n0 195 2 p.2 (ls p.1.1).length (flatL (ls p.1.1))) {tmp : Obj} (hown : w4.ownsRow n0 83 3 v' (ps.length + 1) (flatP ps ++ three p)) (hgrow : (W.alloc tmp).grownBy w4 v.ownBlock) :
    (w4.cell? ⟨b + 1 + 1, 0, none⟩ = some v ∧ w4.frozen? ⟨b + 1 + 1, 0, none⟩ = false) ∧ ParseI ls b n0 w (pre ++ [p.1]) (w4.setCell ⟨b + 1 + 1, 0, none⟩ v') ∧ KeepsOthers W (w4.setCell ⟨b + 1 + 1, 0, none⟩ v') ∧
    ∀ B, b + 3 ≤ B → B + 3 ≤ n0 → Keep3 B W (w4.setCell ⟨b + 1 + 1, 0, none⟩ v') := by
  have hsz := h.sz
  have own := par.out.lt
  have hp' : ∀ k, k < n0 → w4.heap[k]? = W.heap[k]? := fun k hk => by
    have e1 := hgrow.block k (by simp; omega) (fun e => by have := (own k e.symm).1; omega)
    exact e1.trans (Below.heap_alloc _ _ _ (by omega))
  have c4 : ∀ k o, k < n0 → w4.cell? ⟨k, o, none⟩ = W.cell? ⟨k, o, none⟩ := fun k o hk => (cell_of_heap (hp' k hk) o).1
  have f4 : ∀ k o, k < n0 → w4.frozen? ⟨k, o, none⟩ = W.frozen? ⟨k, o, none⟩ := fun k o hk => (cell_of_heap (hp' k hk) o).2
  have c : ∀ k o, k < n0 → ¬ (k = b + 1 + 1 ∧ o = 0) → (w4.setCell ⟨b + 1 + 1, 0, none⟩ v').cell? ⟨k, o, none⟩ = W.cell? ⟨k, o, none⟩ := fun k o hk hne => (World.cell?_setCell_other _ _ _ _ (fun e => hne (by cases e; exact ⟨rfl, rfl⟩))).trans (c4 k o hk)
  have f : ∀ k o, k < n0 → (w4.setCell ⟨b + 1 + 1, 0, none⟩ v').frozen? ⟨k, o, none⟩ = W.frozen? ⟨k, o, none⟩ := fun k o hk => (World.frozen?_setCell ..).trans (f4 k o hk)
  have ko : KeepsOthers W (w4.setCell ⟨b + 1 + 1, 0, none⟩ v') := by
    refine ((KeepsOthers.alloc W tmp).trans (KeepsOthers.of_grownBy hgrow fun j o ej hj => ?_)).trans (KeepsOthers.setCell _ _ _)
    rcases (par.out.alloc tmp).2 with ⟨rfl, _⟩ | ⟨g, cap, cur, rfl, _, hgb, _⟩
    · simp [Value.ownBlock] at ej
    · obtain rfl : g = j := by simpa [Value.ownBlock] using ej
      rw [hgb] at hj; cases hj; rfl
  have bel : Below w.heap.size w (w4.setCell ⟨b + 1 + 1, 0, none⟩ v') := by
    refine ((h.bel.alloc h.bel.size tmp).grown hgrow (by simp; have := h.bel.size; omega) fun j ej => ?_).setCell (p := ⟨b + 1 + 1, 0, none⟩) (by show w.heap.size ≤ b + 1 + 1; omega) v'
    have := (own j ej).1
    omega
  have lay4 : ∀ q : PV ls, W.ownsRow n0 195 2 q.2 (ls q.1.1).length (flatL (ls q.1.1)) → (w4.setCell ⟨b + 1 + 1, 0, none⟩ v').ownsRow n0 195 2 q.2 (ls q.1.1).length (flatL (ls q.1.1)) := fun q hq =>
    ownsRow_setCell_below (row_but (hq.alloc tmp) hgrow fun g hg => row_ne (by decide) (hq.alloc tmp) (par.out.alloc tmp) g hg) (by show b + 1 + 1 < n0; omega) v'
  refine ⟨⟨(c4 _ _ (by omega)).trans cv, (f4 _ _ (by omega)).trans h.f⟩, ⟨⟨v', ps ++ [p], by simp [hps], World.cell?_setCell_same' _ _ _ (by rw [c4 _ _ (by omega), cv]; rfl), ?_, ?_⟩, (f _ _ (by omega)).trans h.f,
    (c _ _ (by omega) (by omega)).trans h.r0, (f _ _ (by omega)).trans h.rf, (c _ _ (by omega) (by omega)).trans h.q0, (f _ _ (by omega)).trans h.qf, bel, ?_⟩, ko, ?_⟩
  · rw [flatP_snoc, List.length_append]
    exact ownsRow_setCell_below hown (by show b + 1 + 1 < n0; omega) v'
  · intro q hq
    rcases List.mem_append.1 hq with hq | hq
    · exact lay4 q (par.lay q hq)
    · obtain rfl : q = p := by simpa using hq
      exact lay4 q hp
  · have := hgrow.size
    simp at this ⊢
    omega
  · intro B h1 h2 k k1 k2 o
    exact ⟨c k o (by omega) (by omega), f k o (by omega)⟩

/-- The results are stored, the loop's own deferred calls taken away. -/
theorem ParseI.done {ls : ByteArray → List (Wd OkL)} {b n0 : Nat} {w : World} {xs : List (Wd (OkP ls))} {W S : World} (h : ParseI ls b n0 w xs W) {v : Value} {ps : List (PV ls)} {D : Nat} (par : Parts ls n0 W v ps) (hb : b + 3 ≤ n0) (hw : w.heap.size = b) (hK : W.heap[D]? = some (.deferred (some []))) (hD : n0 ≤ D)
    (hS : (W.setCell ⟨b, 0, none⟩ v).setCell ⟨b + 1, 0, none⟩ (.int .i64 0) = S) :
    S.heap[D]? = some (.deferred (some [])) ∧ (S.putObj D (.deferred none)).cell? ⟨b, 0, none⟩ = some v ∧ (S.putObj D (.deferred none)).cell? ⟨b + 1, 0, none⟩ = some (.int .i64 0) ∧ Parts ls n0 (S.putObj D (.deferred none)) v ps ∧ Below w.heap.size w (S.putObj D (.deferred none)) := by
  obtain ⟨_, f, r0, rf, q0, qf, bel, sz⟩ := h
  have n1 : ¬ b = b + 1 := by omega
  have n2 : ¬ b + 1 = b := by omega
  have hK' : S.heap[D]? = some (.deferred (some [])) := by
    rw [← hS]
    exact ((KeepsOthers.setCell W _ _).trans (KeepsOthers.setCell _ _ _)).same _ _ hK rfl
  have g := grownBy_putObj' S D (.deferred none)
  have hr : ∀ r, some D = some r → ∃ o : Obj, S.heap[r]? = some o ∧ o.isCells = false := fun r e => by cases e; exact ⟨_, hK', rfl⟩
  have e0 : S.cell? ⟨b, 0, none⟩ = some v := by rw [← hS]; clear hS; go_simp
  have e1 : S.cell? ⟨b + 1, 0, none⟩ = some (.int .i64 0) := by rw [← hS]; clear hS; go_simp
  have er : Parts ls n0 S v ps := by
    rw [← hS]
    exact (par.set (by show b < n0; omega) _).set (by show b + 1 < n0; omega) _
  have eb : Below w.heap.size w S := by
    rw [← hS]
    exact (bel.setCell (p := ⟨b, 0, none⟩) (by show w.heap.size ≤ b; omega) _).setCell (p := ⟨b + 1, 0, none⟩) (by show w.heap.size ≤ b + 1; omega) _
  exact ⟨hK', cell_kept e0 g hr, cell_kept e1 g hr, er.kept g hr, eb.trans (belowK_b (w := w) (Nat.le_refl _) S D _ _ (by omega) hK' rfl rfl)⟩
end Go.Proofs.YticobgianbecpaaGreatDoor
/- The parts of a stack's text are right: the program's walk. -/
namespace Go.Proofs.YticobgianbecpaaGreatDoor
open Go Go.Sort Go.RowKit Go.Shelf

theorem name_byte (c : UInt8) (w : World) : ∃ w' k, (convert 9 259 (.string { data := #[c] })).run Tryz.prog w = .ok (.slice (some ⟨w.heap.size, 0, none⟩) 1 k) w' ∧ Below w.heap.size w w' ∧ w.heap.size < w'.heap.size ∧
    w'.cell? ⟨w.heap.size, 0, none⟩ = some (.int .u8 c.toNat) := by
  have h := run_bytes_of_string (P := Tryz.prog) w 9 259 5 { data := #[c] } Tryz.underlying9 Tryz.underlying259 Tryz.underlying5
  refine ⟨_, _, h, ?_, by simp, ?_⟩
  · exact (Below.refl _ _).drew.alloc (by simp) _
  all_goals
    refine (cell_of_row _ _ _ _ _ _ (heap_alloc_new w.drew _)).trans ?_
    unfold bytesRow
    rw [Array.getElem?_append_left (by simp)]
    simp
set_option maxRecDepth 100000 in
set_option maxHeartbeats 4000000 in
theorem isName_one (c : UInt8) (h1 : 65 ≤ c.toNat) (h2 : c.toNat ≤ 90) (w : World) : Calls Tryz.prog 213 #[.string { data := #[c] }] w fun E w' => E = .returned (.bool true) ∧ Below w.heap.size w w' := by
  obtain ⟨w1, k, e, hb, hs, c0⟩ := name_byte c w
  have hw : w.heap.size < w1.heap.size := hs
  have hb := Lib.hid hb
  have a1 : ¬ (97 : Int) ≤ c.toNat := by omega
  have a2 : (65 : Int) ≤ c.toNat := by omega
  have a3 : (c.toNat : Int) ≤ 90 := by omega
  go_enter Tryz.func213, Tryz.ntmps213
  go_wp2_with fail
  refine wp_loop_rounds 2 ?_
  rw [rounds_succ]
  go_wp2_with fail
  rw [rounds_succ]
  go_wp2
  (with_reducible show bodyPost _ _ _ _ _ _); refine bodyPost_ret (by simp [results, Tryz.results213, go_sem, *]; first | done | rfl) rfl ?_
  exact ⟨rfl, hb.out⟩


def NameYes (s : ByteArray) : Prop := ∀ w, Calls Tryz.prog 213 #[.string s] w fun E w' => E = .returned (.bool true) ∧ Below w.heap.size w w'
def tot {ls : ByteArray → List (Wd OkL)} (ps : List (PV ls)) : Int := (ps.map fun p => ((ls p.1.1).length : Int) * pTimes p.1.1).sum
/-- The parts hold what the program asks of them. -/
structure OkC {ls : ByteArray → List (Wd OkL)} (ps : List (PV ls)) : Prop where
  n : ps.length ≤ 20
  l : ∀ p ∈ ps, 0 < (ls p.1.1).length ∧ (1 ≤ pTimes p.1.1 ∧ pTimes p.1.1 ≤ 40) ∧ ∀ z ∈ ls p.1.1, (0 ≤ vL z.1 ∧ vL z.1 ≤ 1000000) ∧ NameYes (nmL z.1)
  t : ∀ k, k ≤ ps.length → 0 ≤ tot (ps.take k) ∧ tot (ps.take k) ≤ 40
theorem flat_get {α β : Type} (f : α → List β) (n : Nat) (hf : ∀ x, (f x).length = n) : ∀ (l : List α) (k : Nat) (x : α), l[k]? = some x → ∀ o, o < n → (l.flatMap f)[k * n + o]? = (f x)[o]?
  | [], k, x, h, o, ho => by simp at h
  | y :: l, 0, x, h, o, ho => by
    obtain rfl : y = x := by simpa using h
    simp only [List.flatMap_cons, Nat.zero_mul, Nat.zero_add]
    rw [List.getElem?_append_left (by rw [hf]; exact ho)]
  | y :: l, k + 1, x, h, o, ho => by
    simp only [List.flatMap_cons]
    rw [List.getElem?_append_right (by rw [hf, Nat.succ_mul]; omega), hf]
    have := flat_get f n hf l k x (by simpa using h) o ho
    rw [← this]
    congr 1
    rw [Nat.succ_mul]
    omega
theorem flat_len {α β : Type} (f : α → List β) (n : Nat) (hf : ∀ x, (f x).length = n) (l : List α) : (l.flatMap f).length = l.length * n := by
  induction l with
  | nil => simp
  | cons x l ih => simp only [List.flatMap_cons, List.length_append, hf, ih, List.length_cons, Nat.succ_mul]; omega
/-- A row's part k. -/
theorem row_at {α : Type} (f : α → List Value) (n : Nat) (hf : ∀ x, (f x).length = n) {W : World} {b : Nat} {e : TypeId} {v : Value} {l : List α} (h : W.ownsRow b e n v l.length (l.flatMap f)) {k : Nat} {x : α} (hk : l[k]? = some x) :
    ∃ g c, v = .slice (some ⟨g, 0, none⟩) l.length c ∧ g < W.heap.size ∧ ∀ o, o < n → W.cell? ⟨g, k * n + o, none⟩ = (f x)[o]? := by
  have hkl := (List.getElem?_eq_some_iff.1 hk).1
  rcases h.2 with ⟨_, h0⟩ | ⟨g, c, cur, rfl, _⟩
  · omega
  · refine ⟨g, c, rfl, (h.lt g rfl).2, fun o ho => ?_⟩
    rw [h.cellAt (k * n + o) ?_, flat_get f n hf l k x hk o ho]
    have : (k + 1) * n ≤ l.length * n := Nat.mul_le_mul_right _ hkl
    rw [Nat.succ_mul] at this
    omega

theorem tot_next {ls : ByteArray → List (Wd OkL)} {ps : List (PV ls)} {k : Nat} {q : PV ls} (h : ps[k]? = some q) : tot (ps.take (k + 1)) = tot (ps.take k) + ((ls q.1.1).length : Int) * pTimes q.1.1 := by
  unfold tot
  rw [List.take_add_one, h]
  simp
theorem w64 {x : Int} (h1 : -1000000 ≤ x) (h2 : x ≤ 1000000) : RowKit.wrap64 x = x := by
  unfold RowKit.wrap64
  omega
theorem w64n {m n : Nat} (h : m < n) (hn : n ≤ 40) : RowKit.wrap64 ((m : Int) + 1) = (m : Int) + 1 := w64 (by omega) (by omega)
theorem meas {n m : Nat} (h : m < n) : n - (intOf (.int .i64 ((m : Int) + 1))).toNat < n - (intOf (.int .i64 (m : Int))).toNat := by
  simp [intOf]
  omega
theorem below_box {U A B : World} {o : Obj} (h : Below U.heap.size U A) (k : Below (A.alloc o).heap.size (A.alloc o) B) : Below U.heap.size U B := (h.alloc h.size o).trans (k.mono (by have := h.size; simp; omega))
theorem tot_wraps {a n t b : Int} (h : b = a + n * t) (ha : 0 ≤ a) (hb : b ≤ 40) (hn : 0 ≤ n) (ht : 0 ≤ t) : RowKit.wrap64 (n * t) = n * t ∧ RowKit.wrap64 (a + n * t) = a + n * t ∧ ¬ 40 < a + n * t := by
  have hp : 0 ≤ n * t := Int.mul_nonneg hn ht
  generalize n * t = x at *
  exact ⟨w64 (by omega) (by omega), w64 (by omega) (by omega), by omega⟩
set_option maxRecDepth 100000 in
set_option maxHeartbeats 4000000 in
theorem checkParts_yes (ls : ByteArray → List (Wd OkL)) (n0 : Nat) (v : Value) (ps : List (PV ls)) (hc : OkC ps) (w : World) (h : Parts ls n0 w v ps) : Calls Tryz.prog 148 #[v] w fun e w' => e = .returned (.tuple #[.int .i64 0, .int .i64 0]) ∧ Below w.heap.size w w' := by
  obtain ⟨p, c, rfl⟩ := row_slice h.out
  have hn := hc.n
  have n1 : ¬ (20 : Int) < ps.length := by omega
  go_enter Tryz.func148, Tryz.ntmps148
  go_wp2_with fail
  go_loopw [14, 4] (fun i al wr => ∃ k : Nat, k ≤ ps.length ∧ i = .int .i64 k ∧ al = .int .i64 (tot (ps.take k)) ∧ Below w.heap.size w wr) (fun i _ _ => ps.length - (intOf i).toNat)
  case atStart => exact ⟨0, by omega, rfl, by simp [tot], Below.refl _ _⟩
  case round =>
    obtain ⟨k, hk, rfl, rfl, hb_wr⟩ := hrel
    by_cases hlt : k < ps.length
    · obtain ⟨q, hq⟩ : ∃ q, ps[k]? = some q := ⟨_, List.getElem?_eq_getElem hlt⟩
      have hm := List.mem_of_getElem? hq
      obtain ⟨g, c', e, hg, cc⟩ := row_at three 3 (fun _ => rfl) h.out hq
      cases e
      obtain ⟨l1, l2, l3⟩ := hc.l q hm
      have hrow := h.lay q hm
      have hnext := tot_next (ps := ps) hq
      have ht0 := hc.t k (by omega)
      have ht := hc.t (k + 1) (by omega)
      obtain ⟨z, qv⟩ := q
      obtain ⟨pp, pc, e2⟩ := row_slice hrow
      dsimp only at e2 hrow l1 l2 l3 hnext
      subst e2
      obtain ⟨p1, p2, p3⟩ := tot_wraps hnext ht0.1 ht.2 (by omega) (by omega)
      have HT := Lib.hid hnext
      clear hnext ht ht0
      have R0 : wr.cell? ⟨g, k * 3 + 0, none⟩ = _ := (hb_wr.cell (p := ⟨g, k * 3 + 0, none⟩) hg).trans (cc 0 (by omega))
      have R1 : wr.cell? ⟨g, k * 3 + 1, none⟩ = _ := (hb_wr.cell (p := ⟨g, k * 3 + 1, none⟩) hg).trans (cc 1 (by omega))
      have R2 : wr.cell? ⟨g, k * 3 + 2, none⟩ = _ := (hb_wr.cell (p := ⟨g, k * 3 + 2, none⟩) hg).trans (cc 2 (by omega))
      simp only [three, List.getElem?_cons_zero, List.getElem?_cons_succ, Nat.add_zero] at R0 R1 R2
      have hl2 : (k : Int) < ps.length := by omega
      have hl3 : ¬ ((ls z.1).length : Int) = 0 := by omega
      have hgr : g < wr.heap.size := by have := hb_wr.size; omega
      go_wp2_with fail
      obtain ⟨U, hU⟩ : ∃ U, wr.alloc (.cells #[.slice pp (ls z.1).length pc, .int .i64 (pTimes z.1), .bool (pBack z.1)] 83) = U := ⟨_, rfl⟩
      have hz : U.heap.size = wr.heap.size + 1 := by rw [← hU]; simp
      have D0 : U.cell? ⟨wr.heap.size, 0, none⟩ = some (.slice pp (ls z.1).length pc) := by rw [← hU]; clear hU hz; go_simp
      have D1 : U.cell? ⟨wr.heap.size, 1, none⟩ = some (.int .i64 (pTimes z.1)) := by rw [← hU]; clear hU hz; go_simp
      have hb_U : Below w.heap.size w U := by rw [← hU]; exact hb_wr.alloc hb_wr.size _
      rw [hU]
      have hs := hb_wr.size
      clear hU R0 R1 R2 cc hb_wr hgr
      generalize wr.heap.size = B at *
      go_loopw [27] (fun i wr => ∃ m : Nat, m ≤ (ls z.1).length ∧ i = .int .i64 m ∧ Below U.heap.size U wr) (fun i _ => (ls z.1).length - (intOf i).toNat)
      case atStart => exact ⟨0, by omega, rfl, Below.refl _ _⟩
      case round =>
        obtain ⟨m, hmm, rfl, hb_wr⟩ := hrel
        by_cases hlt2 : m < (ls z.1).length
        · clear p1 p2 p3 HT
          obtain ⟨y, hy⟩ : ∃ y, (ls z.1)[m]? = some y := ⟨_, List.getElem?_eq_getElem hlt2⟩
          obtain ⟨⟨v1, v2⟩, v3⟩ := l3 y (List.mem_of_getElem? hy)
          obtain ⟨g2, c2, e, hg2, cc⟩ := row_at (fun z : Wd OkL => two z.1) 2 (fun _ => rfl) hrow hy
          cases e
          have S0 : wr.cell? ⟨g2, m * 2 + 0, none⟩ = _ := (hb_wr.cell (p := ⟨g2, m * 2 + 0, none⟩) (by show g2 < _; have := hb_U.size; omega)).trans ((hb_U.cell (p := ⟨g2, m * 2 + 0, none⟩) hg2).trans (cc 0 (by omega)))
          have S1 : wr.cell? ⟨g2, m * 2 + 1, none⟩ = _ := (hb_wr.cell (p := ⟨g2, m * 2 + 1, none⟩) (by show g2 < _; have := hb_U.size; omega)).trans ((hb_U.cell (p := ⟨g2, m * 2 + 1, none⟩) hg2).trans (cc 1 (by omega)))
          simp only [two, List.getElem?_cons_zero, List.getElem?_cons_succ, Nat.add_zero] at S0 S1
          have hl4 : (m : Int) < (ls z.1).length := by omega
          have HW := Lib.hid (w64n hlt2 z.2.l)
          have hgr : g2 < wr.heap.size := by have := hb_wr.size; have := hb_U.size; omega
          have TH := fun w => sthick_yes (vL y.1) w v1 v2
          have ne := Nat.ne_of_lt hgr
          clear cc
          go_wp2_with (first
            | (go_at_call 213; refine (v3 _).mono ?_; rintro e w3 ⟨rfl, hb3⟩; have C1 := (hb3.cell (p := ⟨wr.heap.size, 1, none⟩) (by simp)).trans (by go_simp : _ = some (.int .i64 (vL y.1))))
            | (go_at_call 153; refine (TH _).mono ?_; rintro e w4 ⟨rfl, rfl⟩))
          go_roundw
          case rel =>
            rw [HW.out]
            exact ⟨m + 1, Nat.succ_le_of_lt hlt2, rfl, below_box hb_wr hb3⟩
          case measure =>
            rw [HW.out]
            exact meas hlt2
        · obtain rfl : m = (ls z.1).length := by omega
          have hl4 : ¬ ((ls z.1).length : Int) < (ls z.1).length := by omega
          have D0 := (hb_wr.cell (p := ⟨B, 0, none⟩) (by show B < _; omega)).trans D0
          have D1 := (hb_wr.cell (p := ⟨B, 1, none⟩) (by show B < _; omega)).trans D1
          have WI := fun w => swithin_yes (pTimes z.1) 1 40 w l2.1 l2.2
          go_wp2_with (first
            | (go_at_call 78; refine (WI _).mono ?_; rintro e w4 ⟨rfl, rfl⟩))
          go_roundw
          case rel => exact ⟨k + 1, Nat.succ_le_of_lt hlt, rfl, by rw [HT.out, p2], hb_U.trans (hb_wr.mono hb_U.size)⟩
          case measure => exact meas hlt
    · have hl2 : ¬ (k : Int) < ps.length := by omega
      obtain rfl : k = ps.length := by omega
      go_wp2
      (with_reducible show bodyPost _ _ _ _ _ _); refine bodyPost_ret (by simp [results, Tryz.results148, go_sem, *]; first | done | rfl) rfl ?_
      exact ⟨rfl, hb_wr⟩
/-- The parts of a text that is right have no error. -/
theorem partsErr_ok (ls : ByteArray → List (Wd OkL)) (n0 : Nat) (v : Value) (ps : List (PV ls)) (hc : OkC ps) (w : World) (h : Parts ls n0 w v ps) : Calls Tryz.prog 96 #[v] w fun e w' => e = .returned (.int .i64 0) ∧ Below w.heap.size w w' := by
  have C := Lib.hid (checkParts_yes ls n0 v ps hc w h)
  obtain ⟨p, c, rfl⟩ := row_slice h.out
  clear h
  go_enter Tryz.func96, Tryz.ntmps96
  go_wp2_with fail
  refine (C.out).mono ?_
  rintro e w1 ⟨rfl, hb_w1⟩
  have hs_w1 := hb_w1.size
  (try simp at hs_w1)
  repeat' (first | go_values | go_skip | go_guarded | go_step | go_upon | (simp only []; go_simp))
  go_ret
  exact ⟨rfl, blw⟩
end Go.Proofs.YticobgianbecpaaGreatDoor
/- A stack's text is read: the program's walk, where the text is right. -/
namespace Go.Proofs.YticobgianbecpaaGreatDoor
open Go.RowKit Go Go.Shelf
attribute [local go_sem] Oper.semAt_some

set_option maxRecDepth 100000 in
set_option maxHeartbeats 8000000 in
theorem parse_ok (ls : ByteArray → List (Wd OkL)) (s : ByteArray) (ws : List (Wd (OkP ls))) (hs : s.size ≤ 1000) (h0 : s.toList.isEmpty = false) (hw : Splits 32 s ws) (hl : ws.length ≤ 20) (hcs : ∀ ps : List (PV ls), ps.map Prod.fst = ws → OkC ps) (w : World) (hS : Std w) :
    Calls Tryz.prog 31 #[.string s] w fun e w' => ∃ v ps, e = .returned (.tuple #[v, .int .i64 0]) ∧ ps.map Prod.fst = ws ∧ Parts ls w.heap.size w' v ps ∧ Below w.heap.size w w' := by
  have HS := Lib.hid hS
  have HCS := Lib.hid hcs
  clear hS hcs
  refine (callsIn_wide (n := 9)).1 ?_
  refine callsIn_of_wp_marks Tryz.func31 rfl trivial ?_ rfl
  simp only [Tryz.ntmps31, List.size_toArray, List.length_cons, List.length_nil, Nat.reduceAdd, Nat.reduceSub, Array.replicate_succ, Array.replicate_zero, List.push_toArray, List.append_toArray, List.nil_append, List.cons_append]
  have s1 : ¬ (2000 : Int) < s.size := by omega
  gi_wp2_with (refine ⟨trivial, ?_⟩; gi_at_call 94; refine (callsIn_wide.2 (SplitSeq_any _ _ _)).mono ?_; rintro e w' ⟨rfl, rfl⟩)
  obtain ⟨X, hX⟩ : ∃ X, ((w.alloc (.cells #[.slice none 0 0] 76)).alloc (.cells #[.int .i64 0] 33)).alloc (.cells #[.slice none 0 0] 76) = X := ⟨_, rfl⟩
  have zX : X.heap.size = w.heap.size + 1 + 1 + 1 := by rw [← hX]; simp
  have c0 : X.cell? ⟨w.heap.size + 1 + 1, 0, none⟩ = some (.slice none 0 0) := by rw [← hX]; clear hX; go_simp
  have I1 : ParseI ls w.heap.size (w.heap.size + 3) w [] X := by
    refine ⟨⟨.slice none 0 0, [], rfl, c0, Parts.nil⟩, ?_, ?_, ?_, ?_, ?_, ?_, ?_⟩ <;> rw [← hX] <;> clear hX c0
    · go_simp
    · go_simp
    · go_simp
    · go_simp
    · go_simp
    · exact blw
    · simp
  have sB := I1.bel.size
  rw [hX]
  clear hX
  obtain ⟨W0, hW0⟩ : ∃ W0, ((X.alloc (.cells #[.string s] 9)).alloc (.cells #[.string ⟨#[32]⟩] 9)).alloc (.cells #[.int .i64 0] 3) = W0 := ⟨_, rfl⟩
  have hz : W0.heap.size = w.heap.size + 6 := by rw [← hW0]; simp; omega
  have k0 : Below X.heap.size X W0 := by rw [← hW0]; exact (((Below.refl _ _).alloc (Nat.le_refl _) _).alloc (by simp) _).alloc (by simp; omega) _
  have I2 := I1.below k0
  have I0 : ParseI ls w.heap.size W0.heap.size w [] W0 := ⟨⟨.slice none 0 0, [], rfl, (k0.cell (p := ⟨w.heap.size + 1 + 1, 0, none⟩) (by show w.heap.size + 1 + 1 < _; omega)).trans c0, Parts.nil⟩, I2.f, I2.r0, I2.rf, I2.q0, I2.qf, I2.bel, Nat.le_refl _⟩
  have bx := boxes3 X s ⟨#[32]⟩
  rw [hW0, zX] at bx
  obtain ⟨d0, d1, d2, d3⟩ := bx
  rw [hW0]
  clear hW0
  refine range_words1 (q := 5) (by decide) rfl (enters_of Tryz.func204 (by kernel_rfl) rfl) (split_iter 8 (by decide) (w.heap.size + 1 + 1 + 1) 32 s (by omega) ws hw W0 (by omega) d0 d1 d2 d3) keep3_t
    (fun W l o o' hl h k1 k2 => keep3_of (belowK_b (w := W0) (by omega) W l o o' hl h k1 k2)) (ParseI ls w.heap.size W0.heap.size w) (fun _ _ _ => False) (parseI_own (by omega)) (fun _ _ _ _ _ hs _ _ => hs) (fun pre W v h => h.set (by omega) (by omega) (by omega) v) I0 ?assign ?body ?done ?stop
  case assign =>
    intro l x W K hK
    gi_wp2
    exact hK
  case stop =>
    rintro D c pre W _ h _
    exact h.elim
  case body =>
    rintro l pre z W hI hlen
    have PZ := fun w h => partP z.2 w h
    have HI := Lib.hid hI
    have HB := Lib.hid hI.bel
    gi_wp2_with (first
      | (refine ⟨trivial, ?_⟩; gi_at_call 95; refine (CallsIn.inRound l (callsIn_wide.2 (PZ _ (HS.out.below HB.out)))).mono ?_; rintro e W1 ⟨vl, rfl, hrow, hb1⟩; obtain ⟨pp, pc, rfl⟩ := row_slice hrow; have I3 := HI.out.below hb1; obtain ⟨v, ps, hps, cv, par⟩ := I3.row; have f := I3.f; have sW := hb1.size; have lt1 := cell_lt cv; have lp := ps_len hps; have n1 : ¬ W1.heap.size = w.heap.size + 1 + 1 := by omega)
      | (gi_at_builtin; obtain ⟨i0, hi, hz0, hz1, hz2'⟩ := part_row; refine wpListIn_append_own _ rfl _ _ 76 rfl W0.heap.size 83 i0 _ 3 40 Tryz.underlying76 hi hz0 hz1 hz2' rfl (by decide) v ps.length (flatP ps) rfl ?q7 ⟨W1.heap.size + 1, 0, none⟩ 1 1 (three (z, .slice pp (ls z.1).length pc)) rfl rfl ?q1 ?q2 ?q3 ?q4 ?q5 ?q6))
    case q7 => exact (par.out.alloc _).alloc _
    case q1 =>
      intro j u hj
      match j, hj with
      | 0, hj => cases hj; go_simp
      | 1, hj => cases hj; go_simp
      | 2, hj => cases hj; go_simp
    case q2 => simp [three, Value.oneCell']
    case q3 => unfold maxLen; omega
    case q4 => omega
    case q5 => simp; have := I3.sz; omega
    case q6 =>
      intro v' w4 hown hgrow _
      rw [← hz, ← lp] at hown
      obtain ⟨g', cap', rfl⟩ := ownsRow_succ hown
      have hb2 := hb1.alloc sW (.cells #[.slice pp (ls z.1).length pc, .int .i64 (pTimes z.1), .bool (pBack z.1)] 83)
      obtain ⟨⟨cv4, f4⟩, I4, ko4, k4⟩ := (HI.out.below hb2).next hps ((Below.refl _ W1).alloc (Nat.le_refl _) _ |>.cell (p := ⟨w.heap.size + 1 + 1, 0, none⟩) lt1 |>.trans cv) (par.kept (row := none) (World.grownBy_alloc W1 _ none) (fun r e => by cases e)) (by omega) rfl (z, .slice pp (ls z.1).length pc) ((row_mono hrow (HI.out.sz)).alloc _) hown hgrow
      clear hown hgrow lp
      have HZ := Lib.hid hz
      clear hz
      gi_wp2
      have hz := HZ.out
      refine ⟨(keepsOthers_of hb2).trans ko4, keep3_t (keep3_of (hb2.mono (by have := HI.out.sz; omega))) (k4 _ (by omega) (by omega)), I4⟩
  case done =>
    rintro D xs W hD rfl hI hK
    obtain ⟨v, ps, hps, cv, par⟩ := hI.row
    obtain ⟨pp, pc, rfl⟩ := row_slice par.out
    have HI := Lib.hid hI
    have HP := Lib.hid par
    clear hI par
    have hlt := (Array.getElem?_eq_some_iff.1 hK).1
    have n1 : ¬ w.heap.size = w.heap.size + 1 := by omega
    gi_wp2_with (refine ⟨trivial, ?_⟩; gi_at_call 96; refine (callsIn_wide.2 (partsErr_ok ls W0.heap.size _ ps (HCS.out ps hps) _ HP.out)).mono ?_; rintro e W1 ⟨rfl, hb1⟩; have c2 := (hb1.cell (p := ⟨w.heap.size + 1 + 1, 0, none⟩) (cell_lt cv)).trans cv; have J := HI.out.below hb1; obtain ⟨_, f, r0, rf, q0, qf, bel, sz⟩ := J)
    obtain ⟨hK', e0, e1, er, eb⟩ := (HI.out.below hb1).done (S := _) (HP.out.below hb1) (by omega) rfl ((hb1.block D hlt).trans hK) hD rfl
    refine ⟨by simp, .inl ⟨_, _, rfl, run_takeDeferred hK', ?_⟩⟩
    refine ⟨_, ?_, _, ps, rfl, hps, er.mono (by omega), eb⟩
    simp [results, go_sem, e0, e1]
end Go.Proofs.YticobgianbecpaaGreatDoor
/- The text that awake reads. -/
namespace Go.Proofs.YticobgianbecpaaGreatDoor
open Go.RowKit Go Go.Shelf

def layH : ByteArray := ⟨#[72, 58, 53, 48, 48]⟩
def layL : ByteArray := ⟨#[76, 58, 56, 48, 48]⟩
def part1 : ByteArray := ⟨#[72, 58, 53, 48, 48, 44, 76, 58, 56, 48, 48, 42, 50]⟩
def part2 : ByteArray := ⟨#[72, 58, 53, 48, 48, 126]⟩
def text : ByteArray := ⟨#[72, 58, 53, 48, 48, 44, 76, 58, 56, 48, 48, 42, 50, 32, 72, 58, 53, 48, 48, 126]⟩
theorem vL_H : vL layH = 500 := by decide
theorem vL_L : vL layL = 800 := by decide
theorem it500 : Lib.itoa 500 = [53, 48, 48] := by simp [Lib.itoa, Lib.decDigits]
theorem it800 : Lib.itoa 800 = [56, 48, 48] := by simp [Lib.itoa, Lib.decDigits]
theorem it2 : Lib.itoa 2 = [50] := by simp [Lib.itoa, Lib.decDigits]
theorem okH : OkL layH := ⟨by decide, by decide, by decide, by decide, by decide, by rw [vL_H, it500]; decide, by decide, by decide, fun j b h => by
  have h : ([72] : List UInt8)[j]? = some b := h
  have := List.mem_of_getElem? h
  simp at this
  subst this
  decide⟩
theorem okLL : OkL layL := ⟨by decide, by decide, by decide, by decide, by decide, by rw [vL_L, it800]; decide, by decide, by decide, fun j b h => by
  have h : ([76] : List UInt8)[j]? = some b := h
  have := List.mem_of_getElem? h
  simp at this
  subst this
  decide⟩
def textLs (x : ByteArray) : List (Wd OkL) := if x = part1 then [⟨layH, okH⟩, ⟨layL, okLL⟩] else [⟨layH, okH⟩]
theorem ls1 : textLs part1 = [⟨layH, okH⟩, ⟨layL, okLL⟩] := if_pos rfl
theorem ls2 : textLs part2 = [⟨layH, okH⟩] := if_neg (by decide)
theorem t1 : pTimes part1 = 2 := by decide
theorem t2 : pTimes part2 = 1 := by decide
theorem okP1 : OkP textLs part1 := ⟨by decide, by decide, by decide, by decide, fun _ => ⟨by rw [t1]; decide, by rw [t1]; decide, by rw [t1, it2]; decide, by decide⟩, by
  rw [ls1]
  exact .more _ 5 ⟨layH, okH⟩ _ (by decide) (by decide) (by decide) (.last ⟨layL, okLL⟩ (by decide)), by rw [ls1]; decide⟩
theorem okP2 : OkP textLs part2 := ⟨by decide, by decide, by decide, by decide, fun h => absurd h (by decide), by
  rw [ls2]
  exact .last ⟨layH, okH⟩ (by decide), by rw [ls2]; decide⟩
theorem text_splits : Splits 32 text [(⟨part1, okP1⟩ : Wd (OkP textLs)), ⟨part2, okP2⟩] :=
  .more _ 13 ⟨part1, okP1⟩ _ (by decide) (by decide) (by decide) (.last ⟨part2, okP2⟩ (by decide))
theorem text_some : text.toList.isEmpty = false := by
  rw [ByteArray.toList, ByteArray.toList_loop_eq text text.size 0 [] (by omega) (by omega)]
  decide
theorem textParts (ps : List (PV textLs)) (h : ps.map Prod.fst = [(⟨part1, okP1⟩ : Wd (OkP textLs)), ⟨part2, okP2⟩]) : ∃ v1 v2, ps = [(⟨part1, okP1⟩, v1), (⟨part2, okP2⟩, v2)] := by
  match ps, h with
  | [(a, v1), (b, v2)], h =>
    simp only [List.map_cons, List.map_nil, List.cons.injEq, and_true] at h
    obtain ⟨rfl, rfl⟩ := h
    exact ⟨v1, v2, rfl⟩
theorem textOk (ps : List (PV textLs)) (h : ps.map Prod.fst = [(⟨part1, okP1⟩ : Wd (OkP textLs)), ⟨part2, okP2⟩]) : OkC ps := by
  obtain ⟨v1, v2, rfl⟩ := textParts ps h
  refine ⟨by simp, fun p hp => ?_, fun k hk => ?_⟩
  · have nH : NameYes (nmL layH) := isName_one 72 (by decide) (by decide)
    have nL : NameYes (nmL layL) := isName_one 76 (by decide) (by decide)
    simp only [List.mem_cons, List.not_mem_nil, or_false] at hp
    rcases hp with rfl | rfl
    · refine ⟨by rw [ls1]; simp, by rw [t1]; decide, fun z hz => ?_⟩
      rw [ls1] at hz
      simp only [List.mem_cons, List.not_mem_nil, or_false] at hz
      rcases hz with rfl | rfl
      · exact ⟨by rw [vL_H]; decide, nH⟩
      · exact ⟨by rw [vL_L]; decide, nL⟩
    · refine ⟨by rw [ls2]; simp, by rw [t2]; decide, fun z hz => ?_⟩
      rw [ls2] at hz
      simp only [List.mem_cons, List.not_mem_nil, or_false] at hz
      subst hz
      exact ⟨by rw [vL_H]; decide, nH⟩
  · match k, hk with
    | 0, _ => simp [tot]
    | 1, _ => simp [tot, ls1, t1]
    | 2, _ => simp [tot, ls1, ls2, t1, t2]
/-- What awake reads: two parts, the second of them mirrored. -/
theorem parse_text (w : World) (hS : Std w) : Calls Tryz.prog 31 #[.string text] w fun e w' => ∃ g c, e = .returned (.tuple #[.slice (some ⟨g, 0, none⟩) 2 c, .int .i64 0]) ∧ w.heap.size ≤ g ∧ g < w'.heap.size ∧ w'.cell? ⟨g, 5, none⟩ = some (.bool true) ∧ Below w.heap.size w w' := by
  refine (parse_ok textLs text _ (by decide) text_some text_splits (by decide) textOk w hS).mono ?_
  rintro e w' ⟨v, ps, rfl, hps, hp, hb⟩
  obtain ⟨v1, v2, rfl⟩ := textParts ps hps
  obtain ⟨g, c, rfl, hg, hc⟩ := row_at three 3 (fun _ => rfl) hp.out (k := 1) rfl
  refine ⟨g, c, rfl, ?_, hg, hc 2 (by decide), hb⟩
  exact (hp.out.lt g rfl).1
end Go.Proofs.YticobgianbecpaaGreatDoor
