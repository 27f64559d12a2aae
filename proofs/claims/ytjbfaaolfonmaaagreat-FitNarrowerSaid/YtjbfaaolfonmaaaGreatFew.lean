/- Whether boxes are few. -/
import Derived.Test.YtjbfaaolfonmaaaGreatKEnd
namespace Go.Proofs.YtjbfaaolfonmaaaGreat
open Go Go.Sort Go.RowKit
@[irreducible] def fewB (n:Nat):Bool:=decide (n≤2)||(decide (6<n)&&decide (n≤8))
theorem few_any (pa:Option Addr) (n cap:Nat) (w:World):Calls Tryz.prog 16 #[.slice pa n cap] w fun E w'=>E = .returned (.bool (fewB n))∧w'=w:=by
 unfold fewB
 by_cases h1:n≤2
 ·have c1:(n:Int)≤2:=by omega
  rw[decide_eq_true h1,Bool.true_or]
  go_enter Tryz.func16,Tryz.ntmps16
  repeat' (first|go_values|go_skip|go_guarded|go_step|go_upon|(simp only[];go_simp))
  go_ret
  exact⟨rfl,rfl⟩
 ·have c1:¬(n:Int)≤2:=by omega
  rw[decide_eq_false h1,Bool.false_or]
  by_cases h2:6<n
  ·have c2:(6:Int)<n:=by omega
   rw[decide_eq_true h2,Bool.true_and]
   by_cases h3:n≤8
   ·have c3:(n:Int)≤8:=by omega
    rw[decide_eq_true h3]
    go_enter Tryz.func16,Tryz.ntmps16
    repeat' (first|go_values|go_skip|go_guarded|go_step|go_upon|(simp only[];go_simp))
    go_ret
    exact⟨rfl,rfl⟩
   ·have c3:¬(n:Int)≤8:=by omega
    rw[decide_eq_false h3]
    go_enter Tryz.func16,Tryz.ntmps16
    repeat' (first|go_values|go_skip|go_guarded|go_step|go_upon|(simp only[];go_simp))
    go_ret
    exact⟨rfl,rfl⟩
  ·have c2:¬(6:Int)<n:=by omega
   rw[decide_eq_false h2,Bool.false_and]
   go_enter Tryz.func16,Tryz.ntmps16
   repeat' (first|go_values|go_skip|go_guarded|go_step|go_upon|(simp only[];go_simp))
   go_ret
   exact⟨rfl,rfl⟩
theorem few_le {n:Nat} (h:fewB n=true):n≤8:=by unfold fewB at h;simp at h;omega
end Go.Proofs.YtjbfaaolfonmaaaGreat
