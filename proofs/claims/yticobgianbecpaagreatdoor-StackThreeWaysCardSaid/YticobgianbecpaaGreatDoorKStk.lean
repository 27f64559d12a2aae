/- Joined: RangeLaw Split Lib AwakeAsk. -/
import Derived.RangeFuncNested
import Derived.RangeFuncBound
import Derived.RangeFuncCalls
import Derived.RangeFuncLeaves
import Derived.RangeFuncFrom
import Derived.RangeFuncBox
import Derived.Lib.IndexBytes
import Derived.Shelf.Abstract
import Derived.Shelf.RegionOpen
import Derived.WalkKit
import Derived.OwnWalkIn
import Derived.TacticsInMore
import Derived.LoopNIn
import Derived.LoopIn
import Derived.Shelf.Lay
import Derived.Shelf.Strings.Search3
import Derived.Ground.NamesProg
import Derived.Test.YticobgianbecpaaGreatDoorProg
import Derived.Test.YticobgianbecpaaGreatDoorKNum
import Derived.Shelf.Small.Wraps
import Derived.Shelf.Strings.Cut
import Derived.Shelf.Strings.Prefix
import Derived.Shelf.Strconv.AtoiAll
import Derived.Shelf.Strconv.Itoa3
import Derived.Shelf.Strings.IndexAnyAll
/- A range over a function whose iterator writes one variable of its own between two rounds. -/
namespace Go
open Go.RowKit

/-- What the iterator asks of its rounds: as the library's contract, and that the caller's word outlives a store into the iterator's own variable. -/
def WordsStop {α : Type} (n : Nat) (P : Program) (gf : Nat) (lb : Array Value) (enc : α → Value) (Bs : Nat) (Kp : World → World → Prop) (S : List α → Prop) (N : Nat) (w : World) : Prop :=
  ∀ (l : Nat) (J Jx : List α → World → Prop) (W : World), Below w.heap.size w W → (∀ pre W v, J pre W → J pre (W.setCell ⟨Bs, 0, none⟩ v)) →
    (∀ pre x W1, J pre W1 → pre.length < N → YieldAt Fence.wide (n - 1) P l #[enc x] W1 fun e W' => (e = .returned (.bool true) ∧ J (pre ++ [x]) W' ∧ Kp W1 W') ∨ (e = .returned (.bool false) ∧ Jx (pre ++ [x]) W')) →
    J [] W → CallsIn Fence.wide n P gf (#[.func (.yield l) #[] #[]] ++ lb) W fun e W' => (∃ v, e = .returned v) ∧ ((∃ xs, S xs ∧ J xs W') ∨ ∃ pre, Jx pre W')

/-- The record of the loop. -/
def loopRec (fn : Nat) (a : Act) (p : Tmp) (assign body : Code) (D : Nat) (st : LoopState) (pe : Option Code) : Loop :=
  { state := st, pending := pe, fn, tmps := a.tmps, params := #[p], assign, body, defers := D }

theorem range_words {n : Nat} {P : Program} {α : Type} {g : Operand} {p : Tmp} {assign body : Code} {Q : Exit → Act → World → Prop} {a : Act} {w : World} {gf : Nat} {lb : Array Value}
    (hn : 1 ≤ n) (hg : a.eval g = .func (.func gf) #[] lb) (eg : ∀ args w, (callFunc gf args).run P w = .ok (.enter gf args) w)
    {enc : α → Value} {Bs : Nat} {Kp : World → World → Prop} {S : List α → Prop} {N : Nat} (hseq : WordsStop (n - 1) P gf lb enc Bs Kp S N w)
    (hKt : ∀ {A B C : World}, Kp A B → Kp B C → Kp A C) (hKb : ∀ (W : World) (l : Nat) (o o' : Obj), w.heap.size ≤ l → W.heap[l]? = some o → o.isCells = false → o.isWalk = false → Kp W (W.putObj l o'))
    (I : List α → World → Prop) (Ix : Code → List α → World → Prop) (hI : OwnFrom w.heap.size I) (hIx : ∀ c, OwnFrom w.heap.size (Ix c)) (hIs : ∀ pre W v, I pre W → I pre (W.setCell ⟨Bs, 0, none⟩ v)) (h0 : I [] w) (a₁ : α → Act)
    (hassign : ∀ (l : Nat) (x : α) (W : World) (K : Act → World → Prop), K (a₁ x) W → assign.wpIn (Fence.wide.inRound l) (n - 1 - 1) P (Exit.then K (fun _ _ _ => False)) { tmps := a.tmps.setIfInBounds p (enc x), defers := [] } W)
    (hbody : ∀ (l : Nat) (pre : List α) (x : α) (W : World), I pre W → pre.length < N → body.wpIn (Fence.wide.inRound l) (n - 1 - 1) P (ownPostK Kp I Ix (pre ++ [x]) W) (a₁ x) W)
    (hdone : ∀ (D : Nat) (xs : List α) (W : World), w.heap.size ≤ D → S xs → I xs W → W.heap[D]? = some (.deferred (some [])) → Q .normal { a with defers := { target := .collected D, args := #[] } :: a.defers } W)
    (hstop : ∀ (D : Nat) (c : Code) (pre : List α) (W : World), w.heap.size ≤ D → Ix c pre W → W.heap[D]? = some (.deferred (some [])) → c.wpIn Fence.wide n P Q { a with defers := { target := .collected D, args := #[] } :: a.defers } W) :
    (Code.rangeFunc g #[p] assign body).wpIn Fence.wide n P Q a w := by
  refine wpIn_rangeFunc fun fn hfn => ?_
  -- the two blocks of the loop: l the record, D the rounds' deferred calls
  obtain ⟨D, hD⟩ : ∃ D, w.heap.size = D := ⟨_, rfl⟩
  obtain ⟨R, hR⟩ : ∃ R, loopRec fn a p assign body D = R := ⟨_, rfl⟩
  obtain ⟨W1, hW1⟩ : ∃ W1, (w.alloc (.deferred (some []))).alloc (.loop (R .ready none)) = W1 := ⟨_, rfl⟩
  have rst : ∀ st pe, (R st pe).state = st ∧ { R st pe with state := LoopState.busy } = R .busy pe := fun st pe => by rw [← hR]; exact ⟨rfl, rfl⟩
  have L1 : W1.heap[D + 1]? = some (.loop (R .ready none)) := by
    have := World.alloc_heap_new (w.alloc (.deferred (some []))) (.loop (R .ready none))
    rw [World.size_alloc, hD, hW1] at this
    exact this
  have K1 : W1.heap[D]? = some (.deferred (some [])) := by
    rw [← hW1]
    exact (Below.heap_alloc _ _ _ (by simp; omega)).trans (by have := World.alloc_heap_new w (.deferred (some [])); rw [hD] at this; exact this)
  have B1 : Below w.heap.size w W1 := by rw [← hW1]; exact ((Below.refl _ w).alloc (Nat.le_refl _) _).alloc (by simp) _
  have I1 : I [] W1 := by rw [← hW1]; exact hI.alloc _ (hI.alloc _ h0)
  refine ⟨D + 1, [{ target := .collected D, args := #[] }], W1, { target := .fn (.func gf) lb, args := #[.func (.yield (D + 1)) #[] #[]] }, W1, gf, #[.func (.yield (D + 1)) #[] #[]] ++ lb, W1, ?_, ?_, fun _ _ => trivial, ?_, fun _ => hn, ?_⟩
  · rw [← hW1, ← hR, ← hD]; exact run_enterLoop_outer _ _ _ _ _
  · simp only [resolve, hg]
    simp [go_sem]
  · simp [invoke, go_sem, eg]
  -- the caller's word, with the two blocks beside it
  refine (hseq (D + 1) (fun pre W => I pre W ∧ W.heap[D + 1]? = some (.loop (R .ready none)) ∧ W.heap[D]? = some (.deferred (some [])))
    (fun pre W => ∃ c, Ix c pre W ∧ W.heap[D + 1]? = some (.loop (R .done (some c))) ∧ W.heap[D]? = some (.deferred (some []))) W1 B1
    (fun pre W v ⟨h1, h2, h3⟩ => ⟨hIs pre W v h1, (KeepsOthers.setCell W _ v).same _ _ h2 rfl, (KeepsOthers.setCell W _ v).same _ _ h3 rfl⟩) ?_ ⟨I1, L1, K1⟩).mono ?_
  · rintro pre x W ⟨hi, hl, hk⟩ hlen
    have hlt : D + 1 < W.heap.size := (Array.getElem?_eq_some_iff.1 hl).1
    have hy := run_yield (P := P) (args := #[enc x]) hl (by rw [← hR]; rfl)
    obtain ⟨V, hV⟩ : ∃ V, W.putObj (D + 1) (.loop (R .busy none)) = V := ⟨_, rfl⟩
    have hbr := run_beginRound (P := P) hl ((rst _ _).1)
    rw [(rst _ _).2, hV] at hbr
    have lV : V.heap[D + 1]? = some (.loop (R .busy none)) := by rw [← hV]; exact World.putObj_heap_same hlt
    have kV : V.heap[D]? = some (.deferred (some [])) := by rw [← hV]; exact (World.putObj_heap_other (by omega)).trans hk
    have pV : Kp W V := by rw [← hV]; exact hKb _ _ _ _ (by omega) hl rfl rfl
    have iV : I pre V := by rw [← hV]; exact hI.putObj _ hi (by omega) hl rfl
    have hy2 : (Instr.yield (D + 1) #[enc x]).run P W = .ok (.round (D + 1) fn (a.tmps.setIfInBounds p (enc x)) assign body) W := by
      rw [← hR] at hy
      simpa [loopRec] using hy
    refine ⟨fn, a.tmps.setIfInBounds p (enc x), assign, body, hy2, ?_⟩
    refine roundIn_of_wpIn hfn ?_
    refine hassign _ x W _ ?_
    refine ⟨_, hbr, ?_⟩
    refine wpIn_mono (hbody _ pre x V iV hlen) ?_
    -- the round's end
    have fin : ∀ (jump : Option Code) (U : World), KeepsOthers V U → (Instr.endRound (D + 1) jump).run P U = .ok (.bool jump.isNone) (U.putObj (D + 1) (.loop (R (if jump.isNone then .ready else .done) jump))) ∧ U.heap[D + 1]? = some (.loop (R .busy none)) ∧
        (U.putObj (D + 1) (.loop (R (if jump.isNone then .ready else .done) jump))).heap[D + 1]? = some (.loop (R (if jump.isNone then .ready else .done) jump)) ∧ (U.putObj (D + 1) (.loop (R (if jump.isNone then .ready else .done) jump))).heap[D]? = some (.deferred (some [])) := fun jump U hk3 => by
      have lU := hk3.same _ _ lV rfl
      have e := run_endRound (P := P) jump lU
      refine ⟨?_, lU, World.putObj_heap_same (Array.getElem?_eq_some_iff.1 lU).1, (World.putObj_heap_other (by omega)).trans (hk3.same _ _ kV rfl)⟩
      rw [← hR] at e ⊢
      exact e
    rintro e a3 U hp
    cases e with
    | normal =>
      obtain ⟨hk3, hp3, hi3⟩ := hp
      obtain ⟨q1, q2, q3, q4⟩ := fin none U hk3
      exact ⟨_, _, q1, .inl ⟨rfl, ⟨hI.putObj _ hi3 (by omega) q2 rfl, q3, q4⟩, hKt (hKt pV hp3) (hKb _ _ _ _ (by omega) q2 rfl rfl)⟩⟩
    | ret =>
      obtain ⟨hk3, hi3⟩ := hp
      obtain ⟨q1, q2, q3, q4⟩ := fin (some .ret) U hk3
      exact ⟨_, _, q1, .inr ⟨rfl, _, (hIx _).putObj _ hi3 (by omega) q2 rfl, q3, q4⟩⟩
    | exit id =>
      obtain ⟨hk3, hi3⟩ := hp
      obtain ⟨q1, q2, q3, q4⟩ := fin (some (.exit id)) U hk3
      exact ⟨_, _, q1, .inr ⟨rfl, _, (hIx _).putObj _ hi3 (by omega) q2 rfl, q3, q4⟩⟩
    | goto t =>
      obtain ⟨hk3, hi3⟩ := hp
      obtain ⟨q1, q2, q3, q4⟩ := fin (some (.goto t)) U hk3
      exact ⟨_, _, q1, .inr ⟨rfl, _, (hIx _).putObj _ hi3 (by omega) q2 rfl, q3, q4⟩⟩
    | panic ch => exact hp.elim
    | outgrown => exact hp.elim
  · rintro e U ⟨⟨v, rfl⟩, (⟨xs, hS, hi, hl, hk⟩ | ⟨pre, c, hi, hl, hk⟩)⟩
    · have q := run_endLoop (P := P) hl (by rw [(rst _ _).1]; simp)
      rw [← hR] at q
      exact ⟨none, _, q, hdone _ xs _ (by omega) hS (hI.putObj _ hi (by omega) hl rfl) ((World.putObj_heap_other (by omega)).trans hk)⟩
    · have q := run_endLoop (P := P) hl (by rw [(rst _ _).1]; simp)
      rw [← hR] at q
      exact ⟨some c, _, q, hstop _ c pre _ (by omega) ((hIx c).putObj _ hi (by omega) hl rfl) ((World.putObj_heap_other (by omega)).trans hk)⟩
/-- The same, where the loop's variable is one temporary. -/
theorem range_words1 {n : Nat} {P : Program} {α : Type} {g : Operand} {p q : Nat} {assign body : Code} {Q : Exit → Act → World → Prop} {a : Act} {w : World} {gf : Nat} {lb : Array Value}
    (hn : 1 ≤ n) (hg : a.eval g = .func (.func gf) #[] lb) (eg : ∀ args w, (callFunc gf args).run P w = .ok (.enter gf args) w)
    {enc : α → Value} {Bs : Nat} {Kp : World → World → Prop} {S : List α → Prop} {N : Nat} (hseq : WordsStop (n - 1) P gf lb enc Bs Kp S N w)
    (hKt : ∀ {A B C : World}, Kp A B → Kp B C → Kp A C) (hKb : ∀ (W : World) (l : Nat) (o o' : Obj), w.heap.size ≤ l → W.heap[l]? = some o → o.isCells = false → o.isWalk = false → Kp W (W.putObj l o'))
    (I : List α → World → Prop) (Ix : Code → List α → World → Prop) (hI : OwnFrom w.heap.size I) (hIx : ∀ c, OwnFrom w.heap.size (Ix c)) (hIs : ∀ pre W v, I pre W → I pre (W.setCell ⟨Bs, 0, none⟩ v)) (h0 : I [] w)
    (hassign : ∀ (l : Nat) (x : α) (W : World) (K : Act → World → Prop), K { tmps := (a.tmps.setIfInBounds p (enc x)).setIfInBounds q (enc x), defers := [] } W → assign.wpIn (Fence.wide.inRound l) (n - 1 - 1) P (Exit.then K (fun _ _ _ => False)) { tmps := a.tmps.setIfInBounds p (enc x), defers := [] } W)
    (hbody : ∀ (l : Nat) (pre : List α) (x : α) (W : World), I pre W → pre.length < N → body.wpIn (Fence.wide.inRound l) (n - 1 - 1) P (ownPostK Kp I Ix (pre ++ [x]) W) { tmps := (a.tmps.setIfInBounds p (enc x)).setIfInBounds q (enc x), defers := [] } W)
    (hdone : ∀ (D : Nat) (xs : List α) (W : World), w.heap.size ≤ D → S xs → I xs W → W.heap[D]? = some (.deferred (some [])) → Q .normal { a with defers := { target := .collected D, args := #[] } :: a.defers } W)
    (hstop : ∀ (D : Nat) (c : Code) (pre : List α) (W : World), w.heap.size ≤ D → Ix c pre W → W.heap[D]? = some (.deferred (some [])) → c.wpIn Fence.wide n P Q { a with defers := { target := .collected D, args := #[] } :: a.defers } W) :
    (Code.rangeFunc g #[p] assign body).wpIn Fence.wide n P Q a w :=
  range_words hn hg eg hseq hKt hKb I Ix hI hIx hIs h0 (fun x => { tmps := (a.tmps.setIfInBounds p (enc x)).setIfInBounds q (enc x), defers := [] }) hassign hbody hdone hstop
end Go
/- strings.SplitSeq at a separator of one byte: its words, one by one. -/
namespace Go.Proofs.YticobgianbecpaaGreatDoor
open Go Go.RowKit Go.Shelf
attribute [local go_sem] Oper.semAt_some

shelf_lay Lays.n143 Nm 143 at Tryz as l_index
theorem index_one (s : ByteArray) (c : UInt8) (w : World) : Calls Tryz.prog 206 #[.string s, .string ⟨#[c]⟩] w fun e w' => e = .returned (.int .i64 (Lib.indexByte s.data.toList c)) ∧ w' = w := Any.strings_Index_one l_index s c w

/-- Words of which something is known. -/
abbrev Wd (ok : ByteArray → Prop) := { x : ByteArray // ok x }
/-- A text, cut into its words. -/
inductive Splits {ok : ByteArray → Prop} (c : UInt8) : ByteArray → List (Wd ok) → Prop
  | last (x : Wd ok) (h : Lib.indexByte x.1.data.toList c = -1) : Splits c x.1 [x]
  | more (s : ByteArray) (i : Nat) (x : Wd ok) (xs : List (Wd ok)) (h : Lib.indexByte s.data.toList c = (i : Int)) (hi : i + 1 ≤ s.size) (hx : x.1 = s.extract 0 i) (t : Splits c (s.extract (i + 1) s.size) xs) : Splits c s (x :: xs)
/-- The iterator's own three variables lie as they lay. -/
def Keep3 (B : Nat) (W W' : World) : Prop := ∀ b, B ≤ b → b < B + 3 → ∀ o, W'.cell? ⟨b, o, none⟩ = W.cell? ⟨b, o, none⟩ ∧ W'.frozen? ⟨b, o, none⟩ = W.frozen? ⟨b, o, none⟩
theorem keep3_t {B : Nat} {X Y Z : World} (h : Keep3 B X Y) (k : Keep3 B Y Z) : Keep3 B X Z := fun b h1 h2 o => ⟨(k b h1 h2 o).1.trans (h b h1 h2 o).1, (k b h1 h2 o).2.trans (h b h1 h2 o).2⟩
theorem keep3_of {B : Nat} {W W' : World} (h : Below (B + 3) W W') : Keep3 B W W' := fun b _ h2 o => ⟨h.cell (p := ⟨b, o, none⟩) h2, h.frozen (p := ⟨b, o, none⟩) h2⟩
def leftAt (B : Nat) (W : World) : Nat := match W.cell? ⟨B, 0, none⟩ with | some (.string r) => r.size | _ => 0
theorem leftAt_of {B : Nat} {W : World} {r : ByteArray} (h : W.cell? ⟨B, 0, none⟩ = some (.string r)) : leftAt B W = r.size := by unfold leftAt; rw [h]

set_option maxRecDepth 100000 in
set_option maxHeartbeats 4000000 in
theorem split_iter (n : Nat) (hn : 1 ≤ n) (B : Nat) (c : UInt8) {ok : ByteArray → Prop} (s : ByteArray) (hs : s.size ≤ 100000) (xs : List (Wd ok)) (hx : Splits c s xs) (w : World) (hB : B + 3 ≤ w.heap.size)
    (c0 : w.cell? ⟨B, 0, none⟩ = some (.string s)) (c1 : w.cell? ⟨B + 1, 0, none⟩ = some (.string ⟨#[c]⟩)) (c2 : w.cell? ⟨B + 2, 0, none⟩ = some (.int .i64 0)) (f0 : w.frozen? ⟨B, 0, none⟩ = false) :
    WordsStop n Tryz.prog 204 #[.pointer (some ⟨B + 1, 0, none⟩), .pointer (some ⟨B, 0, none⟩), .pointer (some ⟨B + 2, 0, none⟩)] (fun x : Wd ok => Value.string x.1) B (Keep3 B) (fun ys => ys = xs) xs.length w := fun l J Jx W hW hJ hY h0 => by
  have d0 := (hW.cell (p := ⟨B, 0, none⟩) (by show B < _; omega)).trans c0
  have d1 := (hW.cell (p := ⟨B + 1, 0, none⟩) (by show B + 1 < _; omega)).trans c1
  have d2 := (hW.cell (p := ⟨B + 2, 0, none⟩) (by show B + 2 < _; omega)).trans c2
  have g0 := (hW.frozen (p := ⟨B, 0, none⟩) (by show B < _; omega)).trans f0
  clear c0 c1 c2 f0
  refine callsIn_of_wp Tryz.func204 rfl trivial ?_ rfl
  simp only [Tryz.ntmps204, List.size_toArray, List.length_cons, List.length_nil, Nat.reduceAdd, Nat.reduceSub, Array.replicate_succ, Array.replicate_zero, List.push_toArray, List.append_toArray, List.nil_append, List.cons_append]
  gi_wp2
  gi_loopw [7] (fun _ wr => ∃ pre rest r, xs = pre ++ rest ∧ Splits c r rest ∧ r.size ≤ 100000 ∧ wr.cell? ⟨B, 0, none⟩ = some (.string r) ∧ wr.frozen? ⟨B, 0, none⟩ = false ∧ wr.cell? ⟨B + 1, 0, none⟩ = some (.string ⟨#[c]⟩) ∧ wr.cell? ⟨B + 2, 0, none⟩ = some (.int .i64 0) ∧ J pre wr)
    (fun _ wr => leftAt B wr)
  case atStart => exact ⟨[], xs, s, rfl, hx, hs, d0, g0, d1, d2, h0⟩
  case round =>
    obtain ⟨pre, rest, r, hxs, hsp, hsz, e0, k0, e1, e2, hJs⟩ := hrel
    cases hsp with
    | last x h =>
      obtain ⟨fn, tmps, assign, body, hy, hR⟩ := hY pre x wr hJs (by rw [hxs]; simp)
      have IX : Calls Tryz.prog 206 #[.string x.1, .string ⟨#[c]⟩] wr fun e w' => e = .returned (.int .i64 (-1)) ∧ w' = wr := by have := index_one x.1 c wr; rw [h] at this; exact this
      gi_wp2_with (refine ⟨trivial, ?_⟩; gi_at_call 206; refine (callsIn_wide.2 IX).mono ?_; rintro e w' ⟨rfl, rfl⟩)
      refine hR.mono ?_
      rintro e W' (⟨rfl, hJ', hk⟩ | ⟨rfl, hJx'⟩)
      · gi_wp2
        go_end0
        exact ⟨⟨_, rfl⟩, .inl ⟨_, hxs.symm, hJ'⟩⟩
      · gi_wp2
        go_end0
        exact ⟨⟨_, rfl⟩, .inr ⟨_, hJx'⟩⟩
    | more r i x xs' h hi hx t =>
      obtain ⟨xv, xo⟩ := x
      simp only at hx
      subst hx
      obtain ⟨fn, tmps, assign, body, hy, hR⟩ := hY pre ⟨r.extract 0 i, xo⟩ wr hJs (by rw [hxs]; simp)
      dsimp only at hy
      have IX : Calls Tryz.prog 206 #[.string r, .string ⟨#[c]⟩] wr fun e w' => e = .returned (.int .i64 (i : Int)) ∧ w' = wr := by have := index_one r c wr; rw [h] at this; exact this
      have i0 : ¬ (i : Int) < 0 := by omega
      have i1 : (i : Int) ≤ r.size := by omega
      have i2 : (i : Int) + 1 ≤ r.size := by omega
      gi_wp2_with (refine ⟨trivial, ?_⟩; gi_at_call 206; refine (callsIn_wide.2 IX).mono ?_; rintro e w' ⟨rfl, rfl⟩)
      refine hR.mono ?_
      rintro e W3 (⟨rfl, hJ3, hk3⟩ | ⟨rfl, hJx3⟩)
      · have m0 := ((hk3 B (Nat.le_refl _) (by omega) 0).1).trans e0
        have m1 := ((hk3 (B + 1) (by omega) (by omega) 0).1).trans e1
        have m2 := ((hk3 (B + 2) (by omega) (by omega) 0).1).trans e2
        have mf := ((hk3 B (Nat.le_refl _) (by omega) 0).2).trans k0
        gi_wp2
        go_roundw
        case rel => exact ⟨pre ++ [⟨r.extract 0 i, xo⟩], xs', r.extract (i + 1) r.size, by simp [hxs], t, by simp; omega, by go_simp, by go_simp, by go_simp, by go_simp, hJ _ _ _ hJ3⟩
        case measure =>
          rw [leftAt_of e0]
          rw [leftAt_of (r := r.extract (i + 1) r.size) (by go_simp)]
          simp
          omega
      · gi_wp2
        refine bodyPost_ret (results_none rfl _ _ _) rfl ?_
        exact ⟨⟨_, rfl⟩, .inr ⟨_, hJx3⟩⟩

set_option maxHeartbeats 1000000 in
theorem splitSeq_any (s sep : ByteArray) (w : World) : Calls Tryz.prog 143 #[.string s, .string sep, .int .i64 0] w fun e w' =>
    e = .returned (.func (.func 204) #[] #[.pointer (some ⟨w.heap.size + 1, 0, none⟩), .pointer (some ⟨w.heap.size, 0, none⟩), .pointer (some ⟨w.heap.size + 1 + 1, 0, none⟩)]) ∧ w' = ((w.alloc (.cells #[.string s] 9)).alloc (.cells #[.string sep] 9)).alloc (.cells #[.int .i64 0] 3) := by
  go_enter Tryz.func143, Tryz.ntmps143
  go_wp2
  go_ret
  exact ⟨rfl, rfl⟩
set_option maxHeartbeats 1000000 in
theorem SplitSeq_any (s sep : ByteArray) (w : World) : Calls Tryz.prog 94 #[.string s, .string sep] w fun e w' =>
    e = .returned (.func (.func 204) #[] #[.pointer (some ⟨w.heap.size + 1, 0, none⟩), .pointer (some ⟨w.heap.size, 0, none⟩), .pointer (some ⟨w.heap.size + 1 + 1, 0, none⟩)]) ∧ w' = ((w.alloc (.cells #[.string s] 9)).alloc (.cells #[.string sep] 9)).alloc (.cells #[.int .i64 0] 3) := by
  go_enter Tryz.func94, Tryz.ntmps94
  go_wp2_with fail
  refine (splitSeq_any _ _ _).mono ?_
  rintro e w' ⟨rfl, rfl⟩
  go_wp2
  go_ret
  exact ⟨rfl, rfl⟩
end Go.Proofs.YticobgianbecpaaGreatDoor
/- The library's functions that the stacks' texts call: their contracts at this dump, and what they ask of the library's own variables. -/
namespace Go.Proofs.YticobgianbecpaaGreatDoor
open Go.RowKit Go Go.Shelf

shelf_lay Lays.n145 Nm 145 at Tryz as l_cut
shelf_lay Lays.n104 Nm 104 at Tryz as l_cutSuffix
shelf_lay Lays.n101 Nm 101 at Tryz as l_trimPrefix
shelf_lay Lays.n150 Nm 150 at Tryz as l_containsAny
shelf_lay LaysM.n171 Nm 171 at Tryz as l_itoa
shelf_lay LaysC.n172 Nm 172 at Tryz as l_atoi
/-- The library's variables hold what start-up lays. -/
structure Std (w : World) : Prop where
  tab : Lib.TabIs Tryz.prog w "internal/strconv.uint64pow10" .u64 Lib.pow10Tab
  syn : ∃ tp p, w.var? Tryz.prog "strconv.ErrSyntax" = some #[.iface tp p]
  ran : ∃ tp p, w.var? Tryz.prog "strconv.ErrRange" = some #[.iface tp p]
  max : ∃ m, w.cell? ⟨5, 0, none⟩ = some (.int .i64 m)

theorem var_below {B g : Nat} {W W' : World} {n : String} {cs : Array Value} (h : Below B W W') (hg : Tryz.prog.globalNamed n = some g) (hgB : g < B) (hv : W.var? Tryz.prog n = some cs) : W'.var? Tryz.prog n = some cs := by
  unfold World.var? at hv ⊢
  rw [hg] at hv ⊢
  simp only [Option.bind_some] at hv ⊢
  rw [h.block g hgB]
  exact hv

theorem g_tab : Tryz.prog.globalNamed "internal/strconv.uint64pow10" = some 8 := by kernel_rfl
theorem g_syn : Tryz.prog.globalNamed "strconv.ErrSyntax" = some 6 := by kernel_rfl
theorem g_ran : Tryz.prog.globalNamed "strconv.ErrRange" = some 7 := by kernel_rfl

theorem var_lt {w : World} {n : String} {g : Nat} {cs : Array Value} (hg : Tryz.prog.globalNamed n = some g) (h : w.var? Tryz.prog n = some cs) : g < w.heap.size := by
  unfold World.var? at h
  rw [hg] at h
  simp only [Option.bind_some] at h
  rcases Nat.lt_or_ge g w.heap.size with k | k
  · exact k
  · rw [Array.getElem?_eq_none k] at h; cases h
theorem cell_lt {w : World} {b o : Nat} {v : Value} (h : w.cell? ⟨b, o, none⟩ = some v) : b < w.heap.size := by
  unfold World.cell? at h
  rcases Nat.lt_or_ge b w.heap.size with k | k
  · exact k
  · simp [Array.getElem?_eq_none k] at h
theorem Std.below {w w' : World} (h : Std w) (hb : Below w.heap.size w w') : Std w' := by
  refine ⟨var_below hb g_tab (var_lt g_tab h.tab) h.tab, ?_, ?_, ?_⟩
  · obtain ⟨tp, p, e⟩ := h.syn; exact ⟨tp, p, var_below hb g_syn (var_lt g_syn e) e⟩
  · obtain ⟨tp, p, e⟩ := h.ran; exact ⟨tp, p, var_below hb g_ran (var_lt g_ran e) e⟩
  · obtain ⟨m, e⟩ := h.max; exact ⟨m, by rw [hb.cell (p := ⟨5, 0, none⟩) (cell_lt e)]; exact e⟩

theorem below_grow (w : World) (k : Nat) (os : Array Obj) : Below w.heap.size w (Go.Sort.grow (w.drewN k) os) := by
  have hd : Below w.heap.size w (w.drewN k) := bl_drewN (Below.refl _ _)
  refine hd.trans ⟨rfl, rfl, rfl, by simp [Go.Sort.grow], fun i hi => ?_⟩
  have hs : i < (w.drewN k).heap.size := Nat.lt_of_lt_of_le hi hd.size
  show ((w.drewN k).heap ++ os)[i]? = _
  rw [Array.getElem?_append_left hs]

theorem below_bytes (w : World) (e : TypeId) (t : ByteArray) : Below w.heap.size w (Lib.bytesWorld w e t) := by
  unfold Lib.bytesWorld
  have h1 : Below w.heap.size w (w.drew.alloc (.cells (Lib.bytesCells w e t) e)) := ((Below.refl _ w).drew).alloc (Nat.le_refl _) _
  refine h1.trans ⟨rfl, rfl, rfl, by simp [World.freeze], fun i hi => ?_⟩
  show (Array.modify _ _ _)[i]? = _
  rw [Array.getElem?_modify, if_neg (by show ¬ w.heap.size = i; omega)]

theorem itoa_any (n : Int) (w : World) (h : Std w) (h0 : -9223372036854775808 ≤ n) (h1 : n ≤ 9223372036854775807) :
    Calls Tryz.prog 210 #[.int .i64 n] w fun e w' => e = .returned (.string ⟨(Lib.itoa n).toArray⟩) ∧ Below w.heap.size w w' :=
  (Any.strconv_Itoa l_itoa n h0 h1 w h.tab).mono fun _ _ ⟨he, k, os, hw⟩ => ⟨he, by rw [hw]; exact below_grow w k os⟩
theorem atoi_ok (s : ByteArray) (v : Int) (w : World) (hs : s.size ≤ 1000000) (h : Lib.atoiAll s.data.toList = .ok v) :
    Calls Tryz.prog 209 #[.string s] w fun e w' => e = .returned (.tuple #[.int .i64 v, .nilIface]) ∧ Below w.heap.size w w' :=
  (Any.strconv_Atoi_ok l_atoi s (by omega) v h w).mono fun _ _ ⟨he, hw⟩ => ⟨he, by
    rcases hw with rfl | ⟨t, rfl⟩
    · exact Below.refl _ _
    · exact below_bytes _ _ _⟩
theorem trim_any (x p : ByteArray) (w : World) : Calls Tryz.prog 211 #[.string x, .string p] w fun e w' => e = .returned (.string ⟨(Lib.trimPrefix x.data.toList p.data.toList).toArray⟩) ∧ w' = w :=
  Any.strings_TrimPrefix l_trimPrefix x p w
theorem cutSuffix_any (x p : ByteArray) (w : World) (hs : x.size ≤ 1000000) : Calls Tryz.prog 144 #[.string x, .string p] w fun e w' => e = .returned (.tuple #[.string ⟨(Lib.trimSuffix x.data.toList p.data.toList).toArray⟩, .bool (Lib.hasSuffix x.data.toList p.data.toList)]) ∧ w' = w :=
  Any.strings_CutSuffix l_cutSuffix x p w (by omega)
theorem cut_str (s sep : ByteArray) (w : World) (h : Std w) (hs : s.size ≤ 1000000) :
    Calls Tryz.prog 145 #[.string s, .string sep] w fun e w' => e = .returned (.tuple #[.string ⟨(Lib.cut s.data.toList sep.data.toList).1.toArray⟩, .string ⟨(Lib.cut s.data.toList sep.data.toList).2.1.toArray⟩, .bool (Lib.cut s.data.toList sep.data.toList).2.2]) ∧ Below w.heap.size w w' := by
  obtain ⟨m, hm⟩ := h.max
  refine (Any.strings_Cut l_cut s sep m w (by omega) hm).mono ?_
  rintro e w' ⟨he, n, rfl⟩
  exact ⟨he, bl_drewN (Below.refl _ _)⟩
theorem containsAny_str (s chars : ByteArray) (w : World) (hs : s.size ≤ 1000000) (hc : chars.size ≤ 1000) (has : ∀ (j : Nat) b, s.data.toList[j]? = some b → b.toNat < 128) (hac : ∀ (j : Nat) b, chars.data.toList[j]? = some b → b.toNat < 128) :
    Calls Tryz.prog 147 #[.string s, .string chars] w fun e w' => e = .returned (.bool (Lib.containsAny s.data.toList chars.data.toList)) ∧ Below w.heap.size w w' :=
  Any.strings_ContainsAny_laid l_containsAny (by kernel_rfl) s chars w (by omega) (by omega) has hac

set_option maxHeartbeats 1000000 in
/-- A numeral is read. -/
theorem number_ok (x : ByteArray) (v : Int) (w : World) (hS : Std w) (hs : x.size ≤ 100) (ha : Lib.atoiAll x.data.toList = .ok v) (hi : Lib.itoa v = x.data.toList) (ht : (Lib.trimPrefix x.data.toList [45]).length ≤ 7) :
    Calls Tryz.prog 146 #[.string x] w fun e w' => e = .returned (.tuple #[.int .i64 v, .bool true]) ∧ Below w.heap.size w w' := by
  have b := Lib.atoiAll_bounds ha
  have AT := Lib.hid (fun w => atoi_ok x v w (by omega) ha)
  have IT : ∀ w, Std w → Calls Tryz.prog 210 #[.int .i64 v] w fun e w' => e = .returned (.string x) ∧ Below w.heap.size w w' := fun w h => by
    have t := itoa_any v w h (by omega) (by omega)
    rw [hi] at t
    exact t
  obtain ⟨z, hz, TP⟩ : ∃ z : ByteArray, ((z.size : Int) ≤ 7) ∧ ∀ w, Calls Tryz.prog 211 #[.string x, .string { data := #[45] }] w fun e w' => e = .returned (.string z) ∧ w' = w :=
    ⟨⟨(Lib.trimPrefix x.data.toList [45]).toArray⟩, by show ((Lib.trimPrefix x.data.toList [45]).toArray.size : Int) ≤ 7; simp; omega, fun w => trim_any x { data := #[45] } w⟩
  have IT := Lib.hid IT
  have TP := Lib.hid TP
  have HS := Lib.hid hS
  clear ha hi ht hS b
  go_enter Tryz.func146, Tryz.ntmps146
  go_wp2_with fail
  refine (AT.out _).mono ?_
  rintro e w1 ⟨rfl, hb_w1⟩
  go_wp2_with fail
  refine (IT.out _ (HS.out.below hb_w1)).mono ?_
  rintro e w2 ⟨rfl, hb_w2⟩
  go_wp2_with fail
  refine (TP.out _).mono ?_
  rintro e w3 ⟨rfl, rfl⟩
  go_wp2
  go_ret2
  exact ⟨rfl, blw⟩
end Go.Proofs.YticobgianbecpaaGreatDoor
/- That the chapter's examples are as told: what the statements' walks ask for. -/
namespace Go.Proofs.YticobgianbecpaaGreatDoor
open Go Go.Sort Go.RowKit

/-- The statements' own function returns true. -/
def Awake3 : Prop := ∀ w : World, Std w → Calls Tryz.prog 8 #[] w fun e w' => e = .returned (.bool true) ∧ Below w.heap.size w w'
end Go.Proofs.YticobgianbecpaaGreatDoor
