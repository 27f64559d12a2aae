/- Copies of asks, and their limits: the walks of the reference's CopyAsk and of the statement's Few. -/
import Derived.Test.YtllpncmpofhgmaaGreatKEnd
import Derived.Test.YtllpncmpofhgmaaGreatKRefl
import Derived.Test.YtllpncmpofhgmaaGreatKOther
namespace Go.Proofs.YtllpncmpofhgmaaGreat
open Go Go.Sort Go.RowKit
set_option maxHeartbeats 2000000 in
theorem CopyAsk_any (A:Ask) (hp:A.pa=none→A.ls.length=0∧A.cap=0) (hn:A.ls.length≤1000) (w:World) (hr:Row A.pa A.ls w) :
  Calls Tryz.prog 10 #[A.val] w fun E w'=>∃g c,E = .returned (A.mv (some ⟨g,0,none⟩) c).val∧Row (some ⟨g,0,none⟩) A.ls w'∧w.heap.size≤g∧g<w'.heap.size∧Below w.heap.size w w':=by
 have CB:=Lib.hid (fun w hr=>copy_all A.pa A.ls A.cap hp hn w hr)
 have HR:=Lib.hid hr
 clear hr hp hn
 unfold Ask.mv Ask.val
 simp only
 generalize A.ls.length=len at *
 generalize A.pa=pa at *
 go_enter Tryz.func10,Tryz.ntmps10
 go_wp2_with fail
 refine(CB.out _ (HR.out.bel blw)).mono ?_
 rintro E w1 ⟨g,c,rfl,ho,A0⟩
 have hlo:=ho.lo
 have hhi:=ho.hi
 simp at hlo
 have n1:¬g=w.heap.size:=by omega
 have n2:¬g=w.heap.size+1:=by omega
 have n4:¬w.heap.size=g:=by omega
 have n5:¬w.heap.size+1=g:=by omega
 have h1:w.heap.size<w1.heap.size:=by omega
 have h2:w.heap.size+1<w1.heap.size:=by omega
 have q1:=blc A0 w.heap.size
 have q2:=blc A0 (w.heap.size+1)
 have q3:=blf A0 w.heap.size
 have q4:=blf A0 (w.heap.size+1)
 repeat' (first|go_values|go_skip|go_guarded|go_step|go_upon|(simp only[];go_simp))
 (with_reducible show bodyPost _ _ _ _ _ _);refine bodyPost_ret (by simp[results,Tryz.results10,go_sem, *];first|done|rfl) rfl ?_
 exact⟨g,c,rfl,ho.row.keep (by simp) (fun o=>by go_simp),by omega,by simp;omega,blw⟩
theorem Few_any (A:Ask) (w:World) :
  Calls Tryz.prog 7 #[A.val] w fun E w'=>∃t:Bool,E = .returned (.bool t)∧(t=true→A.ls.length≤42)∧Below w.heap.size w w':=by
 unfold Ask.val
 generalize A.ls.length=n
 by_cases c1:n≤6
 ·have d1:(n:Int)≤6:=by omega
  go_enter Tryz.func7,Tryz.ntmps7
  repeat' (first|go_values|go_skip|go_guarded|go_step|go_upon|(simp only[];go_simp))
  go_ret
  exact⟨_,rfl,fun _=>by omega,blw⟩
 have d1:¬(n:Int)≤6:=by omega
 by_cases c2:n≤40
 ·have d2:¬40<(n:Int):=by omega
  have d2':¬40<n:=by omega
  go_enter Tryz.func7,Tryz.ntmps7
  repeat' (first|go_values|go_skip|go_guarded|go_step|go_upon|(simp only[];go_simp))
  go_ret
  exact⟨false,rfl,fun h=>absurd h Bool.false_ne_true,blw⟩
 have d2:40<(n:Int):=by omega
 have d2':40<n:=by omega
 by_cases c3:n≤42
 ·have d3:(n:Int)≤42:=by omega
  go_enter Tryz.func7,Tryz.ntmps7
  repeat' (first|go_values|go_skip|go_guarded|go_step|go_upon|(simp only[];go_simp))
  go_ret
  exact⟨_,rfl,fun _=>c3,blw⟩
 have d3:¬(n:Int)≤42:=by omega
 go_enter Tryz.func7,Tryz.ntmps7
 repeat' (first|go_values|go_skip|go_guarded|go_step|go_upon|(simp only[];go_simp))
 go_ret
 exact⟨false,rfl,fun h=>absurd h Bool.false_ne_true,blw⟩
end Go.Proofs.YtllpncmpofhgmaaGreat
