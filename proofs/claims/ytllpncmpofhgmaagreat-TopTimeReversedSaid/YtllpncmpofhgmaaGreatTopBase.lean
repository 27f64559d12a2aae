/- What the statements on both sides of an ask share. -/
import Derived.Test.YtllpncmpofhgmaaGreatQuarter
import Derived.Test.YtllpncmpofhgmaaGreatKBack
import Derived.Test.YtllpncmpofhgmaaGreatKLies
namespace Go.Proofs.YtllpncmpofhgmaaGreat
open Go Go.Sort Go.RowKit
def StackedYes:Prop:=∀w,Calls Tryz.prog 6 #[] w fun e w'=>e = .returned (.bool true)∧Below w.heap.size w w'
theorem Meets_yes {X Z:Res} (hx:Fine X) (hz:Fine Z) (h:Close X Z) (w:World) :
  Calls Tryz.prog 16 #[.agg #[.complex .f64 (fl X.a) (fl X.b),.int .i64 X.c],.agg #[.complex .f64 (fl Z.a) (fl Z.b),.int .i64 Z.c]] w fun E w'=>E = .returned (.tuple #[.bool true,.int .i64 0])∧Below w.heap.size w w':=by
 have k:=Meets_any X.a X.b X.c Z.a Z.b Z.c w hx.f1 hx.f2 hz.f1 hz.f2
 have a:apB X.a X.b Z.a Z.b (X.c+Z.c)=true:=by
  unfold apB
  unfold Close at h
  have r:=hx.right.2.1
  have s:=hz.right.2.1
  simp only[Bool.and_eq_true,decide_eq_true_eq]
  exact⟨by omega,h⟩
 rw[a]at k
 have v:askV X.a X.b X.c Z.a Z.b Z.c true=true:=by unfold askV;rw[if_pos ⟨hx.right,hz.right⟩]
 have q:askQ X.a X.b X.c Z.a Z.b Z.c=0:=by unfold askQ;rw[if_pos ⟨hx.right,hz.right⟩]
 rw[v,q]at k
 exact k
theorem len_wrap {n:Nat} (h:n≤40):wrap64 ((n:Int)+1)=n+1∧IntKind.i64.wrap ((n:Int)+1)=n+1:=⟨IntWalk.wrap64_in _ ⟨by omega,by omega⟩,IntWalk.i64_in _ ⟨by omega,by omega⟩⟩
theorem mv_ok {A:Ask}{p:Option Addr}{c:Nat} (h:AskOk (A.mv p c)):AskOk A:=⟨h.i0,h.i1,h.s0,h.s1,h.s2,h.p0,h.w0,h.w1,h.w2,h.ls,h.len,h.oi0,h.oi1,h.ol0,h.ol1⟩
theorem ok_mv {A:Ask} (h:AskOk A) (p:Option Addr) (c:Nat):AskOk (A.mv p c):=⟨h.i0,h.i1,h.s0,h.s1,h.s2,h.p0,h.w0,h.w1,h.w2,h.ls,h.len,h.oi0,h.oi1,h.ol0,h.ol1⟩
theorem OtherSide_any (A:Ask) (g c:Nat) (w:World) (hr:Row (some ⟨g,0,none⟩) A.ls w) :
  Calls Tryz.prog 9 #[(A.mv (some ⟨g,0,none⟩) c).val] w fun e w'=>((∃q:Int,¬q=0∧e = .returned (.tuple #[zeroAsk,.int .i64 q]))∨(AskOk A∧otherQ A=0∧∃p c',e = .returned (.tuple #[(other A (some p) c').val,.int .i64 0])∧Row (some p) A.ls.reverse w'∧w.heap.size≤p.block∧p.block<w'.heap.size))∧Below w.heap.size w w':=by
 by_cases h:ckQ (A.mv (some ⟨g,0,none⟩) c)=0
 ·have ok:=ckQ_ok h
  have oA:=mv_ok ok
  have e1:otherQ (A.mv (some ⟨g,0,none⟩) c)=otherQ A:=by unfold otherQ;rfl
  by_cases k:otherQ A=0
  ·refine(OtherSide_yes _ ok _ rfl w hr (by rw[e1];exact k)).mono ?_
   rintro e w' ⟨p,c',rfl,h1,h2,h3,h4⟩
   exact⟨.inr ⟨oA,k,p,c',rfl,h1,h2,h3⟩,h4⟩
  ·refine(OtherSide_no _ ok w hr _ e1 k).mono ?_
   rintro e w' ⟨rfl,h4⟩
   exact⟨.inl ⟨_,k,rfl⟩,h4⟩
 ·refine(OtherSide_bad _ w hr h).mono ?_
  rintro e w' ⟨rfl,h4⟩
  exact⟨.inl ⟨_,h,rfl⟩,h4⟩
end Go.Proofs.YtllpncmpofhgmaaGreat
