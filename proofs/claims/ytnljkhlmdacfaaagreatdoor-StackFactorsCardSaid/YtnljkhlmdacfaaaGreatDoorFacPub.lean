/- The parts, the factors and the matrix of a layer: what the program hands back, exactly. -/
import Derived.Test.YtnljkhlmdacfaaaGreatDoorPartsPub
import Derived.Test.YtnljkhlmdacfaaaGreatDoorKCopy
namespace Go.Proofs.YtnljkhlmdacfaaaGreatDoor
open Go Go.Sort Go.RowKit
theorem PartsOfLayer_to (A:Ask) (m:Int) (hq:opQ A m 1 0=0) (j:Nat) (b:Box) (hj:A.ls[j]?=some b) (hm:m=j+1) (g c:Nat) (w:World) (hr:Row (some ⟨g,0,none⟩) A.ls w) (hg:g<w.heap.size) :
  Calls Tryz.prog 45 #[(A.mv (some ⟨g,0,none⟩) c).val,.int .i64 m] w fun e w'=>e = .returned (.tuple #[.agg #[.int .i64 (turR 0 0 A b),.int .i64 (turR 1 0 A b),.int .i64 (turR 2 0 A b),.int .i64 (turR 3 0 A b)],.int .i64 (norR 0 A b).q])∧Below w.heap.size w w':=by
 have k:=PartsOfLayer_good (A.mv (some ⟨g,0,none⟩) c) m (by rw[opQ_mv];exact hq) j b hj hm w hr (fun a h=>by cases h;exact hg)
 simp only[turR_mv,nor_mv]at k
 exact k
theorem Factors_to (A:Ask) (m:Int) (hq:opQ A m 1 0=0) (j:Nat) (b:Box) (hj:A.ls[j]?=some b) (hm:m=j+1) (F G X Y:Res) (hF:facR 0 A b 1=F) (hG:facR F.q A b 2=G) (hX:after G.q F=X) (hY:after G.q G=Y) (g c:Nat) (w:World) (hr:Row (some ⟨g,0,none⟩) A.ls w) (hg:g<w.heap.size) :
  Calls Tryz.prog 46 #[(A.mv (some ⟨g,0,none⟩) c).val,.int .i64 m] w fun e w'=>e = .returned (.tuple #[.agg #[.complex .f64 (fl X.a) (fl X.b),.int .i64 X.c,.complex .f64 (fl Y.a) (fl Y.b),.int .i64 Y.c],.int .i64 G.q])∧Below w.heap.size w w':=by
 have k:=Factors_good (A.mv (some ⟨g,0,none⟩) c) m (by rw[opQ_mv];exact hq) j b hj hm w hr (fun a h=>by cases h;exact hg)
 simp only[fac_mv]at k
 rw[hF,hG,hX,hY]at k
 exact k
theorem MatrixOf_to (A:Ask) (m:Int) (hq:opQ A m 1 0=0) (j:Nat) (b:Box) (hj:A.ls[j]?=some b) (hm:m=j+1) (y g:Res) (M N:Mat) (q:Int) (hy:admR 0 A b=y) (hg:facR y.q A b 2=g) (hM:matR g.q y g=(M,q)) (hN:Mat.mk (after q M.m0) (after q M.m1) (after q M.m2) (after q M.m3)=N) (gp c:Nat) (w:World) (hr:Row (some ⟨gp,0,none⟩) A.ls w) (hgp:gp<w.heap.size) :
  Calls Tryz.prog 47 #[(A.mv (some ⟨gp,0,none⟩) c).val,.int .i64 m] w fun e w'=>e = .returned (.tuple #[.agg N.cells,.int .i64 q])∧Below w.heap.size w w':=by
 have k:=MatrixOf_good (A.mv (some ⟨gp,0,none⟩) c) m (by rw[opQ_mv];exact hq) j b hj hm y g M q (by rw[adm_mv];exact hy) (by rw[fac_mv];exact hg) hM w hr (fun a h=>by cases h;exact hgp)
 rw[hN]at k
 exact k
theorem PartsOfLayer_no (A:Ask) (m q:Int) (e:opQ A m 1 0=q) (hq:¬q=0) (g c:Nat) (w:World) (hr:Row (some ⟨g,0,none⟩) A.ls w) (hg:g<w.heap.size) :
  Calls Tryz.prog 45 #[(A.mv (some ⟨g,0,none⟩) c).val,.int .i64 m] w fun e w'=>e = .returned (.tuple #[.agg #[.int .i64 0,.int .i64 0,.int .i64 0,.int .i64 0],.int .i64 q])∧Below w.heap.size w w':=by
 have k:=PartsOfLayer_bad (A.mv (some ⟨g,0,none⟩) c) m (by rw[opQ_mv,e];exact hq) w hr (fun a h=>by cases h;exact hg)
 rw[opQ_mv,e]at k
 exact k
theorem Factors_no (A:Ask) (m q:Int) (e:opQ A m 1 0=q) (hq:¬q=0) (g c:Nat) (w:World) (hr:Row (some ⟨g,0,none⟩) A.ls w) (hg:g<w.heap.size) :
  Calls Tryz.prog 46 #[(A.mv (some ⟨g,0,none⟩) c).val,.int .i64 m] w fun e w'=>e = .returned (.tuple #[.agg #[.complex .f64 0 0,.int .i64 0,.complex .f64 0 0,.int .i64 0],.int .i64 q])∧Below w.heap.size w w':=by
 have k:=Factors_bad (A.mv (some ⟨g,0,none⟩) c) m (by rw[opQ_mv,e];exact hq) w hr (fun a h=>by cases h;exact hg)
 rw[opQ_mv,e]at k
 exact k
theorem MatrixOf_no (A:Ask) (m q:Int) (e:opQ A m 1 0=q) (hq:¬q=0) (g c:Nat) (w:World) (hr:Row (some ⟨g,0,none⟩) A.ls w) (hg:g<w.heap.size) :
  Calls Tryz.prog 47 #[(A.mv (some ⟨g,0,none⟩) c).val,.int .i64 m] w fun e w'=>e = .returned (.tuple #[.agg #[.complex .f64 0 0,.int .i64 0,.complex .f64 0 0,.int .i64 0,.complex .f64 0 0,.int .i64 0,.complex .f64 0 0,.int .i64 0],.int .i64 q])∧Below w.heap.size w w':=by
 have k:=MatrixOf_bad (A.mv (some ⟨g,0,none⟩) c) m (by rw[opQ_mv,e];exact hq) w hr (fun a h=>by cases h;exact hg)
 rw[opQ_mv,e]at k
 exact k
end Go.Proofs.YtnljkhlmdacfaaaGreatDoor
