/- The example of chapter 3: a quarter-wave layer. -/
import Derived.Test.YtllpncmpofhgmaaGreatAskCopy
import Derived.Test.YtllpncmpofhgmaaGreatTrans
namespace Go.Proofs.YtllpncmpofhgmaaGreat
open Go Go.Sort Go.RowKit
def quarterLs:List Box := [⟨20000,20000,500,500,0⟩]
def quarter (p:Option Addr):Ask:=⟨10000,0,0,0,4000,4000,quarterLs,40000,0,p,1⟩
theorem quarter_ok (p:Option Addr):AskOk (quarter p):=by
 refine⟨?_,?_,?_,?_,?_,.inl rfl,?_,?_,?_,?_,?_,?_,?_,?_,?_⟩<;>dsimp only[quarter]<;>first|omega|skip
 ·intro b hb
  obtain rfl:=List.mem_singleton.1 hb
  exact⟨by decide,by decide,by decide,by decide,by decide,by decide,by decide,by decide⟩
 ·decide
theorem quarter_row {w:World}{g:Nat} (h0:w.cell? ⟨g,0,none⟩=some (.int .i64 20000)) (h1:w.cell? ⟨g,1,none⟩=some (.int .i64 20000)) (h2:w.cell? ⟨g,2,none⟩=some (.int .i64 500)) (h3:w.cell? ⟨g,3,none⟩=some (.int .i64 500)) (h4:w.cell? ⟨g,4,none⟩=some (.int .i64 0)) (hg:g<w.heap.size):Row (some ⟨g,0,none⟩) quarterLs w:=by
 refine⟨fun j b hj=>⟨_,rfl,by rw[block_add];exact hg,?_⟩⟩
 match j,hj with
 | 0,hj =>
  obtain rfl:(⟨20000,20000,500,500,0⟩:Box)=b:=by simpa[quarterLs]using hj
  exact⟨h0,h1,h2,h3,h4⟩
 | k+1,hj=>simp[quarterLs]at hj
theorem quarter_amp (p:Option Addr) (fs:Bool):ampR (quarter p) fs=ampR (quarter none) fs:=amp_mv (quarter none) p 1 fs
set_option maxHeartbeats 2000000 in
theorem Quarter_any (w:World):Calls Tryz.prog 21 #[] w fun e w'=>∃g,e = .returned (quarter (some ⟨g,0,none⟩)).val∧Row (some ⟨g,0,none⟩) quarterLs w'∧w.heap.size≤g∧g<w'.heap.size∧Below w.heap.size w w':=by
 unfold quarter Ask.val
 go_enter Tryz.func21,Tryz.ntmps21
 repeat' (first|go_values|go_skip|go_guarded|go_step|go_upon|(simp only[];go_simp))
 refine bodyPost_ret (by simp[results,Tryz.results21,go_sem, *];first|done|rfl) rfl ?_
 exact⟨w.heap.size+1,rfl,quarter_row (by go_simp) (by go_simp) (by go_simp) (by go_simp) (by go_simp) (by simp),by omega,by simp,blw⟩
theorem quarter_value:(ampR (quarter none) true).q=0∧(ampR (quarter none) true).a=0∧(ampR (quarter none) true).b=524288∧(ampR (quarter none) true).c=0:=by decide +kernel
end Go.Proofs.YtllpncmpofhgmaaGreat
