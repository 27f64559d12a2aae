/- The examples of chapter 7: what would be read. -/
import Derived.Test.YtjbfaaolfonmaaaGreatKPred
namespace Go.Proofs.YtjbfaaolfonmaaaGreat
open Go Go.Sort Go.RowKit
theorem setting_any (w:World):Calls Tryz.prog 70 #[] w fun E w'=>E = .returned (.agg #[.int .i64 4000,.int .i64 10000,.int .i64 0])∧Below w.heap.size w w':=by
 go_enter Tryz.func70,Tryz.ntmps70
 repeat' (first|go_values|go_skip|go_guarded|go_step|go_upon|(simp only[];go_simp))
 (with_reducible show bodyPost _ _ _ _ _ _);refine bodyPost_ret (by simp[results,Tryz.results70,go_sem, *];first|done|rfl) rfl ?_
 exact⟨rfl,blw⟩
theorem glass_any (w:World):Calls Tryz.prog 72 #[] w fun E w'=>E = .returned (.agg #[.int .i64 40000,.int .i64 0])∧Below w.heap.size w w':=by
 go_enter Tryz.func72,Tryz.ntmps72
 repeat' (first|go_values|go_skip|go_guarded|go_step|go_upon|(simp only[];go_simp))
 (with_reducible show bodyPost _ _ _ _ _ _);refine bodyPost_ret (by simp[results,Tryz.results72,go_sem, *];first|done|rfl) rfl ?_
 exact⟨rfl,blw⟩
theorem row_one {w:World}{g:Nat}{b:Box} (hg:g<w.heap.size) (h0:w.cell? ⟨g,0,none⟩=some (.int .i64 b.il)) (h1:w.cell? ⟨g,1,none⟩=some (.int .i64 b.ih)) (h2:w.cell? ⟨g,2,none⟩=some (.int .i64 b.tl)) (h3:w.cell? ⟨g,3,none⟩=some (.int .i64 b.th)) (h4:w.cell? ⟨g,4,none⟩=some (.int .i64 b.lo)) :
  Row (some ⟨g,0,none⟩) [b] w:=by
 refine⟨fun j c hj => ?_⟩
 match j,hj with
 | 0,hj =>
  simp only[List.getElem?_cons_zero,Option.some.injEq]at hj
  subst hj
  exact⟨_,rfl,hg,h0,h1,h2,h3,h4⟩
def half7:Box:=⟨20000,20000,1000,1000,0⟩
theorem half_any (w:World):Calls Tryz.prog 71 #[] w fun E w'=>E = .returned (.slice (some ⟨w.heap.size,0,none⟩) 1 1)∧Row (some ⟨w.heap.size,0,none⟩) [half7] w'∧Below w.heap.size w w':=by
 go_enter Tryz.func71,Tryz.ntmps71
 repeat' (first|go_values|go_skip|go_guarded|go_step|go_upon|(simp only[];go_simp))
 go_ret
 exact⟨rfl,row_one (by simp) (by go_simp;rfl) (by go_simp;rfl) (by go_simp;rfl) (by go_simp;rfl) (by go_simp;rfl),blw⟩
theorem pred_ex:predM 4000 10000 0 [half7] 40000 0=⟨-6,6, -1048576, -1048562, -9,9,0⟩:=by
 have h0:(predM 4000 10000 0 [half7] 40000 0).n0 = -6:=by decide +kernel
 have h1:(predM 4000 10000 0 [half7] 40000 0).n1=6:=by decide +kernel
 have h2:(predM 4000 10000 0 [half7] 40000 0).c0 = -1048576:=by decide +kernel
 have h3:(predM 4000 10000 0 [half7] 40000 0).c1 = -1048562:=by decide +kernel
 have h4:(predM 4000 10000 0 [half7] 40000 0).s0 = -9:=by decide +kernel
 have h5:(predM 4000 10000 0 [half7] 40000 0).s1=9:=by decide +kernel
 have h6:(predM 4000 10000 0 [half7] 40000 0).q=0:=by decide +kernel
 generalize predM 4000 10000 0 [half7] 40000 0=S at *
 obtain⟨n0,n1,c0,c1,s0,s1,q⟩:=S
 simp only at h0 h1 h2 h3 h4 h5 h6
 subst h0 h1 h2 h3 h4 h5 h6
 rfl
theorem predicted_ex (g:Nat) (w:World) (hr:Row (some ⟨g,0,none⟩) [half7] w) :
  Calls Tryz.prog 17 #[.agg #[.int .i64 4000,.int .i64 10000,.int .i64 0],.slice (some ⟨g,0,none⟩) 1 1,.agg #[.int .i64 40000,.int .i64 0]] w fun E w' =>
   E = .returned (.tuple #[.agg #[.int .i64 (-6),.int .i64 6,.int .i64 (-1048576),.int .i64 (-1048562),.int .i64 (-9),.int .i64 9],.int .i64 0])∧Below w.heap.size w w':=by
 have h:=Predicted_any 4000 10000 0 40000 0 [half7] (some ⟨g,0,none⟩) 1 w hr
 rw[pred_ex]at h
 exact h
end Go.Proofs.YtjbfaaolfonmaaaGreat
