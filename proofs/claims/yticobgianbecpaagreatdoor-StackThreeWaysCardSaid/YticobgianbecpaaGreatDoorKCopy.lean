/- Joined: AskCopy Quarter. -/
import Derived.Test.YticobgianbecpaaGreatDoorKEnd
import Derived.Test.YticobgianbecpaaGreatDoorKRefl
import Derived.Test.YticobgianbecpaaGreatDoorKOther
import Derived.Test.YticobgianbecpaaGreatDoorKYes
namespace Go.Proofs.YticobgianbecpaaGreatDoor
open Go Go.Sort Go.RowKit
set_option maxHeartbeats 2000000 in
theorem CopyAsk_any (A:Ask) (hp:A.pa=none→A.ls.length=0∧A.cap=0) (hn:A.ls.length≤1000) (w:World) (hr:Row A.pa A.ls w) :
  Calls Tryz.prog 11 #[A.val] w fun E w'=>∃g c,E = .returned (A.mv (some ⟨g,0,none⟩) c).val∧Row (some ⟨g,0,none⟩) A.ls w'∧w.heap.size≤g∧g<w'.heap.size∧Below w.heap.size w w':=by
 have CB:=Lib.hid (fun w hr=>copy_all A.pa A.ls A.cap hp hn w hr)
 have HR:=Lib.hid hr
 clear hr hp hn
 unfold Ask.mv Ask.val
 simp only
 generalize A.ls.length=len at *
 generalize A.pa=pa at *
 go_enter Tryz.func11,Tryz.ntmps11
 go_wp2_with fail
 refine(CB.out _ (HR.out.bel blw)).mono ?_
 rintro E w1 ⟨g,c,rfl,ho,A0⟩
 have hlo:=ho.lo
 have hhi:=ho.hi
 simp at hlo
 have n1:¬g=w.heap.size:=by omega
 have n2:¬g=w.heap.size+1:=by omega
 have n4:¬w.heap.size=g:=by omega
 have n5:¬w.heap.size+1=g:=by omega
 have h1:w.heap.size<w1.heap.size:=by omega
 have h2:w.heap.size+1<w1.heap.size:=by omega
 have q1:=blc A0 w.heap.size
 have q2:=blc A0 (w.heap.size+1)
 have q3:=blf A0 w.heap.size
 have q4:=blf A0 (w.heap.size+1)
 repeat' (first|go_values|go_skip|go_guarded|go_step|go_upon|(simp only[];go_simp))
 (with_reducible show bodyPost _ _ _ _ _ _);refine bodyPost_ret (by simp[results,Tryz.results11,go_sem, *];first|done|rfl) rfl ?_
 exact⟨g,c,rfl,ho.row.keep (by simp) (fun o=>by go_simp),by omega,by simp;omega,blw⟩
theorem Few_any (A:Ask) (w:World) :
  Calls Tryz.prog 9 #[A.val] w fun E w'=>∃t:Bool,E = .returned (.bool t)∧(t=true→A.ls.length≤42)∧Below w.heap.size w w':=by
 unfold Ask.val
 generalize A.ls.length=n
 by_cases c1:n≤6
 ·have d1:(n:Int)≤6:=by omega
  go_enter Tryz.func9,Tryz.ntmps9
  repeat' (first|go_values|go_skip|go_guarded|go_step|go_upon|(simp only[];go_simp))
  go_ret
  exact⟨_,rfl,fun _=>by omega,blw⟩
 have d1:¬(n:Int)≤6:=by omega
 by_cases c2:n≤40
 ·have d2:¬40<(n:Int):=by omega
  have d2':¬40<n:=by omega
  go_enter Tryz.func9,Tryz.ntmps9
  repeat' (first|go_values|go_skip|go_guarded|go_step|go_upon|(simp only[];go_simp))
  go_ret
  exact⟨false,rfl,fun h=>absurd h Bool.false_ne_true,blw⟩
 have d2:40<(n:Int):=by omega
 have d2':40<n:=by omega
 by_cases c3:n≤42
 ·have d3:(n:Int)≤42:=by omega
  go_enter Tryz.func9,Tryz.ntmps9
  repeat' (first|go_values|go_skip|go_guarded|go_step|go_upon|(simp only[];go_simp))
  go_ret
  exact⟨_,rfl,fun _=>c3,blw⟩
 have d3:¬(n:Int)≤42:=by omega
 go_enter Tryz.func9,Tryz.ntmps9
 repeat' (first|go_values|go_skip|go_guarded|go_step|go_upon|(simp only[];go_simp))
 go_ret
 exact⟨false,rfl,fun h=>absurd h Bool.false_ne_true,blw⟩
end Go.Proofs.YticobgianbecpaaGreatDoor
namespace Go.Proofs.YticobgianbecpaaGreatDoor
open Go Go.Sort Go.RowKit
def quarterLs:List Box := [⟨20000,20000,500,500,0⟩]
def quarter (p:Option Addr):Ask:=⟨10000,0,0,0,4000,4000,quarterLs,40000,0,p,1⟩
theorem quarter_ok (p:Option Addr):AskOk (quarter p):=by
 refine⟨?_,?_,?_,?_,?_,.inl rfl,?_,?_,?_,?_,?_,?_,?_,?_,?_⟩<;>dsimp only[quarter]<;>first|omega|skip
 ·intro b hb
  obtain rfl:=List.mem_singleton.1 hb
  exact⟨by decide,by decide,by decide,by decide,by decide,by decide,by decide,by decide⟩
 ·decide
theorem quarter_row {w:World}{g:Nat} (h0:w.cell? ⟨g,0,none⟩=some (.int .i64 20000)) (h1:w.cell? ⟨g,1,none⟩=some (.int .i64 20000)) (h2:w.cell? ⟨g,2,none⟩=some (.int .i64 500)) (h3:w.cell? ⟨g,3,none⟩=some (.int .i64 500)) (h4:w.cell? ⟨g,4,none⟩=some (.int .i64 0)) (hg:g<w.heap.size):Row (some ⟨g,0,none⟩) quarterLs w:=by
 refine⟨fun j b hj=>⟨_,rfl,by rw[block_add];exact hg,?_⟩⟩
 match j,hj with
 | 0,hj =>
  obtain rfl:(⟨20000,20000,500,500,0⟩:Box)=b:=by simpa[quarterLs]using hj
  exact⟨h0,h1,h2,h3,h4⟩
 | k+1,hj=>simp[quarterLs]at hj
theorem quarter_amp (p:Option Addr) (fs:Bool):ampR (quarter p) fs=ampR (quarter none) fs:=amp_mv (quarter none) p 1 fs
set_option maxHeartbeats 2000000 in
theorem Quarter_any (w:World):Calls Tryz.prog 30 #[] w fun e w'=>∃g,e = .returned (quarter (some ⟨g,0,none⟩)).val∧Row (some ⟨g,0,none⟩) quarterLs w'∧w.heap.size≤g∧g<w'.heap.size∧Below w.heap.size w w':=by
 unfold quarter Ask.val
 go_enter Tryz.func30,Tryz.ntmps30
 repeat' (first|go_values|go_skip|go_guarded|go_step|go_upon|(simp only[];go_simp))
 refine bodyPost_ret (by simp[results,Tryz.results30,go_sem, *];first|done|rfl) rfl ?_
 exact⟨w.heap.size+1,rfl,quarter_row (by go_simp) (by go_simp) (by go_simp) (by go_simp) (by go_simp) (by simp),by omega,by simp,blw⟩
theorem quarter_value:(ampR (quarter none) true).q=0∧(ampR (quarter none) true).a=0∧(ampR (quarter none) true).b=524288∧(ampR (quarter none) true).c=0:=by decide +kernel
end Go.Proofs.YticobgianbecpaaGreatDoor
