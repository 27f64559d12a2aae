/- Whether two balls meet: the statements' own function. -/
import Derived.Test.YtnljkhlmdacfaaaGreatDoorKShr
namespace Go.Proofs.YtnljkhlmdacfaaaGreatDoor
open Go Go.Sort Go.RowKit
theorem meets_yes {X Z:Res} (hx:Fine X) (hz:Fine Z) (h:Close X Z) (w:World) :
  Calls Tryz.prog 55 #[.agg #[.complex .f64 (fl X.a) (fl X.b),.int .i64 X.c],.agg #[.complex .f64 (fl Z.a) (fl Z.b),.int .i64 Z.c]] w fun E w'=>E = .returned (.bool true)∧Below w.heap.size w w':=by
 have M:=Lib.hid (fun w=>Meets_yes hx hz h w)
 clear hx hz h
 go_enter Tryz.func55,Tryz.ntmps55
 go_wp2_with fail
 refine(M.out _).mono ?_
 rintro e w1 ⟨rfl,A0⟩
 have A1:=A0.size
 (try simp at A1)
 repeat' (first|go_values|go_skip|go_guarded|go_step|go_upon|(simp only[];go_simp))
 go_ret
 exact⟨rfl,blw⟩
end Go.Proofs.YtnljkhlmdacfaaaGreatDoor
