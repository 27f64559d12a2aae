/- A copy of any row of boxes. -/
import Derived.Test.YtjbfaaolfonmaaaGreatKFit
namespace Go.Proofs.YtjbfaaolfonmaaaGreat
open Go Go.Sort Go.RowKit

/-- A copy of any row. -/
theorem copy_nil (w : World) : Calls Tryz.prog 18 #[.slice none 0 0] w fun E w' => Copied [] 0 w E w' := by
  go_enter Tryz.func18, Tryz.ntmps18
  repeat' (first | go_values | go_skip | go_guarded | go_step | go_upon | (simp only []; go_simp))
  go_ret
  exact ⟨w.heap.size, 0, rfl, ⟨Nat.le_refl _, by simp, fun j b hj => by simp at hj, fun o => by go_simp⟩, blw⟩
theorem copy_all (pa : Option Addr) (ls : List Box) (cap : Nat) (hp : pa = none → ls.length = 0 ∧ cap = 0) (hn : ls.length ≤ 1000) (w : World) (hr : Row pa ls w) :
    Calls Tryz.prog 18 #[.slice pa ls.length cap] w fun E w' => Copied ls ls.length w E w' := by
  cases pa with
  | none =>
    obtain ⟨h1, h2⟩ := hp rfl
    obtain rfl : ls = [] := List.length_eq_zero_iff.1 h1
    subst h2
    exact copy_nil w
  | some a => exact copy_any a ls cap w hr hn
/-- Another block's cell turns; what is laid later. -/
theorem OwnBox.far {ls : List Box} {N g : Nat} {w : World} {a : Addr} {v : Value} (h : OwnBox ls N g w) (ha : a.block ≠ g) : OwnBox ls N g (w.setCell a v) := by
  refine ⟨h.lo, by simpa using h.hi, fun k c hk => boxAt_five.2 fun m hm => ?_, fun o => (World.frozen?_setCell _ _ _ _).trans (h.free o)⟩
  rw [← boxAt_five.1 (h.at' k c hk) m hm]
  exact World.cell?_setCell_other _ _ _ _ (fun e => ha (by rw [e, block_add, block_add]))
theorem OwnBox.bel {ls : List Box} {N g : Nat} {w w' : World} (h : OwnBox ls N g w) (k : Below w.heap.size w w') : OwnBox ls N g w' :=
  ⟨h.lo, Nat.lt_of_lt_of_le h.hi k.size, fun j b hj => (h.at' j b hj).bel k (by rw [block_add]; exact h.hi), fun o => (k.frozen (p := ⟨g, o, none⟩) h.hi).trans (h.free o)⟩
theorem OwnBox.low {ls : List Box} {N M g : Nat} {w : World} (h : OwnBox ls N g w) (hM : M ≤ N) : OwnBox ls M g w := ⟨Nat.le_trans hM h.lo, h.hi, h.at', h.free⟩
end Go.Proofs.YtjbfaaolfonmaaaGreat
