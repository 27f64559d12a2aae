/- The factors and the matrix of a layer: the reference's public functions. -/
import Derived.Test.YtnljkhlmdacfaaaGreatDoorKRc
import Derived.Test.YtnljkhlmdacfaaaGreatDoorRFactor1
import Derived.Test.YtnljkhlmdacfaaaGreatDoorKRa
import Derived.Test.YtnljkhlmdacfaaaGreatDoorPubs
import Derived.Deep.RegionHeld3
namespace Go.Proofs.YtnljkhlmdacfaaaGreatDoor
open Go Go.Sort Go.RowKit
set_option maxRecDepth 100000 in
set_option maxHeartbeats 8000000 in
theorem rFactors_any (A:Ask) (hA:AskOk A) (m:Int) (b:Box) (hM:RMed A m b) (F G X Y:Res) (hF:facR 0 A b 1=F) (hG:facR F.q A b 2=G) (hX:after G.q F=X) (hY:after G.q G=Y) (w:World) (hr:Row A.pa A.ls w) :
  Calls Tryz.prog 49 #[A.val,.int .i64 m] w fun E w'=>E = .returned (.tuple #[.agg #[.int .i64 X.a,.int .i64 X.b,.int .i64 X.c,.int .i64 Y.a,.int .i64 Y.b,.int .i64 Y.c],.int .i64 G.q])∧Below w.heap.size w w':=by
 have F1:=fun B=>r_fac_once B 0 A m b hA hM
 have F2:=fun B=>r_factor2 B F.q A m b hA hM
 rw[hF]at F1
 rw[hG]at F2
 unfold RLG Ask.val at F1 F2
 unfold Ask.val
 have F1:=Lib.hid F1
 have F2:=Lib.hid F2
 have HR:=Lib.hid hr
 have HP:=Lib.hid hr.blk
 clear hr hA hM hF hG
 by_cases hq:G.q=0
 ·have hq1:(G.q != 0)=false:=by simpa using hq
  rw[hq,aft_good]at hX hY
  subst hX
  subst hY
  rw[hq]
  go_enter Tryz.func49,Tryz.ntmps49
  go_wp2_with fail
  refine(F1.out (w.heap.size+1+1) _ ⟨⟨by go_simp,by go_simp,by simp⟩,HR.out.bel blw,fun a h hl=>by have:=HP.out a h hl;omega⟩).mono ?_
  rintro e w1 ⟨rfl,A0⟩
  have RT_w1:=Lib.hid (Rt.turn (e:=0) (A:=A) ⟨⟨by go_simp,by go_simp,by simp⟩,HR.out.bel blw,fun a h hl=>by have:=HP.out a h hl;omega⟩ A0)
  have Aj:=A0.size_le
  (try simp at Aj)
  have B2:Below w.heap.size w w1:=Below.trans (show Below w.heap.size w _ from blw) (A0.below (by first|omega|(simp;omega)) (by first|omega|(simp;omega)))
  have A3:=tnc A0 (w.heap.size)
  have A4:=tnf A0 (w.heap.size)
  have A1:=tnc A0 (w.heap.size+1)
  have A2:=tnf A0 (w.heap.size+1)
  have Bj:=RT_w1.out.st.cell
  have Bk:=RT_w1.out.st.free
  have Bo:=RT_w1.out.st.lt
  have Ap:w.heap.size<w1.heap.size:=by omega
  have Ak:¬w.heap.size=w1.heap.size:=by omega
  have Aq:w.heap.size<w1.heap.size+1:=by omega
  have Al:¬w.heap.size=w1.heap.size+1:=by omega
  have Ar:w.heap.size<w1.heap.size+1+1:=by omega
  have Am:¬w.heap.size=w1.heap.size+1+1:=by omega
  have Ag:w.heap.size+1<w1.heap.size:=by omega
  have Ab:¬w.heap.size+1=w1.heap.size:=by omega
  have Ah:w.heap.size+1<w1.heap.size+1:=by omega
  have Ac:¬w.heap.size+1=w1.heap.size+1:=by omega
  have Ai:w.heap.size+1<w1.heap.size+1+1:=by omega
  have Ad:¬w.heap.size+1=w1.heap.size+1+1:=by omega
  have y0_w1:¬w.heap.size+1+1=w1.heap.size:=by omega
  have x0_w1:w.heap.size+1+1<w1.heap.size:=by omega
  have y1_w1:¬w.heap.size+1+1=w1.heap.size+1:=by omega
  have x1_w1:w.heap.size+1+1<w1.heap.size+1:=by omega
  have y2_w1:¬w.heap.size+1+1=w1.heap.size+1+1:=by omega
  have x2_w1:w.heap.size+1+1<w1.heap.size+1+1:=by omega
  have An:∀o,w1.cell? ⟨w.heap.size,o,none⟩=(#[.int .i64 A.ix,.int .i64 A.sl,.int .i64 A.sh,.int .i64 A.po,.int .i64 A.wl,.int .i64 A.wh,.slice A.pa A.ls.length A.cap,.int .i64 A.oi,.int .i64 A.ol]:Array Value)[o]?:=fun o=>(A3 o).trans (by go_simp)
  have Ao:∀o,w1.frozen? ⟨w.heap.size,o,none⟩=false:=fun o=>(A4 o).trans (by go_simp)
  clear A3 A4
  have Ae:∀o,w1.cell? ⟨w.heap.size+1,o,none⟩=(#[.int .i64 0,.int .i64 0,.int .i64 0,.int .i64 0,.int .i64 0,.int .i64 0]:Array Value)[o]?:=fun o=>(A1 o).trans (by go_simp)
  have Af:∀o,w1.frozen? ⟨w.heap.size+1,o,none⟩=false:=fun o=>(A2 o).trans (by go_simp)
  clear A1 A2
  clear A0
  go_wp2_with fail
  refine(F2.out (w.heap.size+1+1) _ (RT_w1.out.bel (show Below w1.heap.size w1 _ from blw))).mono ?_
  rintro e w2 ⟨rfl,A5⟩
  have RT_w2:=Lib.hid ((RT_w1.out.bel (show Below w1.heap.size w1 _ from blw)).turn A5)
  have B4:=A5.size_le
  (try simp at B4)
  have As:Below w.heap.size w w2:=Below.trans (show Below w.heap.size w _ from blw) (A5.below (by first|omega|(simp;omega)) (by first|omega|(simp;omega)))
  have A6:=tnc A5 (w.heap.size+1)
  have A7:=tnf A5 (w.heap.size+1)
  have A9:=tnc A5 (w1.heap.size)
  have Aa:=tnf A5 (w1.heap.size)
  have Bt:=RT_w2.out.st.cell
  have Bv:=RT_w2.out.st.free
  have Bw:=RT_w2.out.st.lt
  have Bg:w.heap.size<w2.heap.size:=by omega
  have Bd:¬w.heap.size=w2.heap.size:=by omega
  have Bh:w.heap.size<w2.heap.size+1:=by omega
  have Be:¬w.heap.size=w2.heap.size+1:=by omega
  have Bi:w.heap.size<w2.heap.size+1+1:=by omega
  have Bf:¬w.heap.size=w2.heap.size+1+1:=by omega
  have Ay:w.heap.size+1<w2.heap.size:=by omega
  have At:¬w.heap.size+1=w2.heap.size:=by omega
  have Az:w.heap.size+1<w2.heap.size+1:=by omega
  have Au:¬w.heap.size+1=w2.heap.size+1:=by omega
  have B0:w.heap.size+1<w2.heap.size+1+1:=by omega
  have Av:¬w.heap.size+1=w2.heap.size+1+1:=by omega
  have Ba:w1.heap.size<w2.heap.size:=by omega
  have B5:¬w1.heap.size=w2.heap.size:=by omega
  have Bb:w1.heap.size<w2.heap.size+1:=by omega
  have B6:¬w1.heap.size=w2.heap.size+1:=by omega
  have Bc:w1.heap.size<w2.heap.size+1+1:=by omega
  have B7:¬w1.heap.size=w2.heap.size+1+1:=by omega
  have y0_w2:¬w.heap.size+1+1=w2.heap.size:=by omega
  have x0_w2:w.heap.size+1+1<w2.heap.size:=by omega
  have y1_w2:¬w.heap.size+1+1=w2.heap.size+1:=by omega
  have x1_w2:w.heap.size+1+1<w2.heap.size+1:=by omega
  have y2_w2:¬w.heap.size+1+1=w2.heap.size+1+1:=by omega
  have x2_w2:w.heap.size+1+1<w2.heap.size+1+1:=by omega
  have Aw:∀o,w2.cell? ⟨w.heap.size+1,o,none⟩=(#[.int .i64 0,.int .i64 0,.int .i64 0,.int .i64 0,.int .i64 0,.int .i64 0]:Array Value)[o]?:=fun o=>(A6 o).trans (by go_simp)
  have Ax:∀o,w2.frozen? ⟨w.heap.size+1,o,none⟩=false:=fun o=>(A7 o).trans (by go_simp)
  clear A6 A7
  have B8:∀o,w2.cell? ⟨w1.heap.size,o,none⟩=(#[.int .i64 F.a,.int .i64 F.b,.int .i64 F.c]:Array Value)[o]?:=fun o=>(A9 o).trans (by go_simp)
  have B9:∀o,w2.frozen? ⟨w1.heap.size,o,none⟩=false:=fun o=>(Aa o).trans (by go_simp)
  clear A9 Aa
  clear A5
  repeat' (first|go_values|go_skip|go_guarded|go_step|go_upon|(simp only[];go_simp))
  (with_reducible show bodyPost _ _ _ _ _ _);refine bodyPost_ret (by simp[results,Tryz.results49,go_sem, *];first|done|rfl) rfl ?_
  exact⟨rfl,blw⟩
 ·have hq1:(G.q != 0)=true:=by simpa using hq
  obtain⟨xa,xb,xc⟩:=aft_bad hq F
  obtain⟨ya,yb,yc⟩:=aft_bad hq G
  rw[hX]at xa xb xc
  rw[hY]at ya yb yc
  rw[xa,xb,xc,ya,yb,yc]
  clear xa xb xc ya yb yc hX hY
  go_enter Tryz.func49,Tryz.ntmps49
  go_wp2_with fail
  refine(F1.out (w.heap.size+1+1) _ ⟨⟨by go_simp,by go_simp,by simp⟩,HR.out.bel blw,fun a h hl=>by have:=HP.out a h hl;omega⟩).mono ?_
  rintro e w1 ⟨rfl,A0⟩
  have RT_w1:=Lib.hid (Rt.turn (e:=0) (A:=A) ⟨⟨by go_simp,by go_simp,by simp⟩,HR.out.bel blw,fun a h hl=>by have:=HP.out a h hl;omega⟩ A0)
  have Aj:=A0.size_le
  (try simp at Aj)
  have B2:Below w.heap.size w w1:=Below.trans (show Below w.heap.size w _ from blw) (A0.below (by first|omega|(simp;omega)) (by first|omega|(simp;omega)))
  have A3:=tnc A0 (w.heap.size)
  have A4:=tnf A0 (w.heap.size)
  have A1:=tnc A0 (w.heap.size+1)
  have A2:=tnf A0 (w.heap.size+1)
  have Bj:=RT_w1.out.st.cell
  have Bk:=RT_w1.out.st.free
  have Bo:=RT_w1.out.st.lt
  have Ap:w.heap.size<w1.heap.size:=by omega
  have Ak:¬w.heap.size=w1.heap.size:=by omega
  have Aq:w.heap.size<w1.heap.size+1:=by omega
  have Al:¬w.heap.size=w1.heap.size+1:=by omega
  have Ar:w.heap.size<w1.heap.size+1+1:=by omega
  have Am:¬w.heap.size=w1.heap.size+1+1:=by omega
  have Ag:w.heap.size+1<w1.heap.size:=by omega
  have Ab:¬w.heap.size+1=w1.heap.size:=by omega
  have Ah:w.heap.size+1<w1.heap.size+1:=by omega
  have Ac:¬w.heap.size+1=w1.heap.size+1:=by omega
  have Ai:w.heap.size+1<w1.heap.size+1+1:=by omega
  have Ad:¬w.heap.size+1=w1.heap.size+1+1:=by omega
  have y0_w1:¬w.heap.size+1+1=w1.heap.size:=by omega
  have x0_w1:w.heap.size+1+1<w1.heap.size:=by omega
  have y1_w1:¬w.heap.size+1+1=w1.heap.size+1:=by omega
  have x1_w1:w.heap.size+1+1<w1.heap.size+1:=by omega
  have y2_w1:¬w.heap.size+1+1=w1.heap.size+1+1:=by omega
  have x2_w1:w.heap.size+1+1<w1.heap.size+1+1:=by omega
  have An:∀o,w1.cell? ⟨w.heap.size,o,none⟩=(#[.int .i64 A.ix,.int .i64 A.sl,.int .i64 A.sh,.int .i64 A.po,.int .i64 A.wl,.int .i64 A.wh,.slice A.pa A.ls.length A.cap,.int .i64 A.oi,.int .i64 A.ol]:Array Value)[o]?:=fun o=>(A3 o).trans (by go_simp)
  have Ao:∀o,w1.frozen? ⟨w.heap.size,o,none⟩=false:=fun o=>(A4 o).trans (by go_simp)
  clear A3 A4
  have Ae:∀o,w1.cell? ⟨w.heap.size+1,o,none⟩=(#[.int .i64 0,.int .i64 0,.int .i64 0,.int .i64 0,.int .i64 0,.int .i64 0]:Array Value)[o]?:=fun o=>(A1 o).trans (by go_simp)
  have Af:∀o,w1.frozen? ⟨w.heap.size+1,o,none⟩=false:=fun o=>(A2 o).trans (by go_simp)
  clear A1 A2
  clear A0
  go_wp2_with fail
  refine(F2.out (w.heap.size+1+1) _ (RT_w1.out.bel (show Below w1.heap.size w1 _ from blw))).mono ?_
  rintro e w2 ⟨rfl,A5⟩
  have RT_w2:=Lib.hid ((RT_w1.out.bel (show Below w1.heap.size w1 _ from blw)).turn A5)
  have B4:=A5.size_le
  (try simp at B4)
  have As:Below w.heap.size w w2:=Below.trans (show Below w.heap.size w _ from blw) (A5.below (by first|omega|(simp;omega)) (by first|omega|(simp;omega)))
  have A6:=tnc A5 (w.heap.size+1)
  have A7:=tnf A5 (w.heap.size+1)
  have A9:=tnc A5 (w1.heap.size)
  have Aa:=tnf A5 (w1.heap.size)
  have Bt:=RT_w2.out.st.cell
  have Bv:=RT_w2.out.st.free
  have Bw:=RT_w2.out.st.lt
  have Bg:w.heap.size<w2.heap.size:=by omega
  have Bd:¬w.heap.size=w2.heap.size:=by omega
  have Bh:w.heap.size<w2.heap.size+1:=by omega
  have Be:¬w.heap.size=w2.heap.size+1:=by omega
  have Bi:w.heap.size<w2.heap.size+1+1:=by omega
  have Bf:¬w.heap.size=w2.heap.size+1+1:=by omega
  have Ay:w.heap.size+1<w2.heap.size:=by omega
  have At:¬w.heap.size+1=w2.heap.size:=by omega
  have Az:w.heap.size+1<w2.heap.size+1:=by omega
  have Au:¬w.heap.size+1=w2.heap.size+1:=by omega
  have B0:w.heap.size+1<w2.heap.size+1+1:=by omega
  have Av:¬w.heap.size+1=w2.heap.size+1+1:=by omega
  have Ba:w1.heap.size<w2.heap.size:=by omega
  have B5:¬w1.heap.size=w2.heap.size:=by omega
  have Bb:w1.heap.size<w2.heap.size+1:=by omega
  have B6:¬w1.heap.size=w2.heap.size+1:=by omega
  have Bc:w1.heap.size<w2.heap.size+1+1:=by omega
  have B7:¬w1.heap.size=w2.heap.size+1+1:=by omega
  have y0_w2:¬w.heap.size+1+1=w2.heap.size:=by omega
  have x0_w2:w.heap.size+1+1<w2.heap.size:=by omega
  have y1_w2:¬w.heap.size+1+1=w2.heap.size+1:=by omega
  have x1_w2:w.heap.size+1+1<w2.heap.size+1:=by omega
  have y2_w2:¬w.heap.size+1+1=w2.heap.size+1+1:=by omega
  have x2_w2:w.heap.size+1+1<w2.heap.size+1+1:=by omega
  have Aw:∀o,w2.cell? ⟨w.heap.size+1,o,none⟩=(#[.int .i64 0,.int .i64 0,.int .i64 0,.int .i64 0,.int .i64 0,.int .i64 0]:Array Value)[o]?:=fun o=>(A6 o).trans (by go_simp)
  have Ax:∀o,w2.frozen? ⟨w.heap.size+1,o,none⟩=false:=fun o=>(A7 o).trans (by go_simp)
  clear A6 A7
  have B8:∀o,w2.cell? ⟨w1.heap.size,o,none⟩=(#[.int .i64 F.a,.int .i64 F.b,.int .i64 F.c]:Array Value)[o]?:=fun o=>(A9 o).trans (by go_simp)
  have B9:∀o,w2.frozen? ⟨w1.heap.size,o,none⟩=false:=fun o=>(Aa o).trans (by go_simp)
  clear A9 Aa
  clear A5
  go_wp2_with fail
  (go_region_held3 (fun w'=>w'.cell? ⟨w.heap.size+1+1,0,none⟩=some (.int .i64 G.q)) (simp[*,go_sem]) (fail))
  repeat' (first|go_values|go_skip|go_guarded|go_step|go_upon|(simp only[];go_simp))
  (with_reducible show bodyPost _ _ _ _ _ _);refine bodyPost_ret (by simp[results,Tryz.results49,go_sem, *];first|done|rfl) rfl ?_
  exact⟨rfl,blw⟩
set_option maxRecDepth 100000 in
set_option maxHeartbeats 8000000 in
theorem rMatrixOf_any (A:Ask) (hA:AskOk A) (m:Int) (b:Box) (hM:RMed A m b) (y g:Res) (M N:Mat) (q:Int) (hy:admR 0 A b=y) (hg:facR y.q A b 2=g) (hMq:matR g.q y g=(M,q)) (hN:Mat.mk (after q M.m0) (after q M.m1) (after q M.m2) (after q M.m3)=N) (w:World) (hr:Row A.pa A.ls w) :
  Calls Tryz.prog 50 #[A.val,.int .i64 m] w fun E w'=>E = .returned (.tuple #[.agg N.ints,.int .i64 q])∧Below w.heap.size w w':=by
 have F1:=fun B=>r_adm B 0 A m b hA hM
 have F2:=fun B=>r_factor2 B y.q A m b hA hM
 have fy:=fine_adm 0 A b
 have fg:=fine_fac y.q A b 2
 rw[hy]at F1 fy
 rw[hg]at F2 fg
 have MX:=fun B w S=>r_matrix B g.q y g fy fg w S
 rw[hMq]at MX
 unfold RLG Ask.val at F1 F2
 unfold Ask.val
 have F1:=Lib.hid F1
 have F2:=Lib.hid F2
 have HR:=Lib.hid hr
 have HP:=Lib.hid hr.blk
 clear hr hA hM hy hg hMq fy fg
 obtain⟨M0,M1,M2,M3⟩:=M
 unfold Mat.ints at MX ⊢
 dsimp only at MX hN ⊢
 have MX:=Lib.hid MX
 by_cases hq:q=0
 ·have hq1:(q != 0)=false:=by simpa using hq
  rw[hq,aft_good,aft_good,aft_good,aft_good]at hN
  subst hN
  dsimp only
  rw[hq]
  go_enter Tryz.func50,Tryz.ntmps50
  go_wp2_with fail
  refine(F1.out (w.heap.size+1+1) _ ⟨⟨by go_simp,by go_simp,by simp⟩,HR.out.bel blw,fun a h hl=>by have:=HP.out a h hl;omega⟩).mono ?_
  rintro e w1 ⟨rfl,A0⟩
  have RT_w1:=Lib.hid (Rt.turn (e:=0) (A:=A) ⟨⟨by go_simp,by go_simp,by simp⟩,HR.out.bel blw,fun a h hl=>by have:=HP.out a h hl;omega⟩ A0)
  have Aj:=A0.size_le
  (try simp at Aj)
  have B2:Below w.heap.size w w1:=Below.trans (show Below w.heap.size w _ from blw) (A0.below (by first|omega|(simp;omega)) (by first|omega|(simp;omega)))
  have A3:=tnc A0 (w.heap.size)
  have A4:=tnf A0 (w.heap.size)
  have A1:=tnc A0 (w.heap.size+1)
  have A2:=tnf A0 (w.heap.size+1)
  have Bj:=RT_w1.out.st.cell
  have Bk:=RT_w1.out.st.free
  have Bo:=RT_w1.out.st.lt
  have Ap:w.heap.size<w1.heap.size:=by omega
  have Ak:¬w.heap.size=w1.heap.size:=by omega
  have Aq:w.heap.size<w1.heap.size+1:=by omega
  have Al:¬w.heap.size=w1.heap.size+1:=by omega
  have Ar:w.heap.size<w1.heap.size+1+1:=by omega
  have Am:¬w.heap.size=w1.heap.size+1+1:=by omega
  have Ag:w.heap.size+1<w1.heap.size:=by omega
  have Ab:¬w.heap.size+1=w1.heap.size:=by omega
  have Ah:w.heap.size+1<w1.heap.size+1:=by omega
  have Ac:¬w.heap.size+1=w1.heap.size+1:=by omega
  have Ai:w.heap.size+1<w1.heap.size+1+1:=by omega
  have Ad:¬w.heap.size+1=w1.heap.size+1+1:=by omega
  have y0_w1:¬w.heap.size+1+1=w1.heap.size:=by omega
  have x0_w1:w.heap.size+1+1<w1.heap.size:=by omega
  have y1_w1:¬w.heap.size+1+1=w1.heap.size+1:=by omega
  have x1_w1:w.heap.size+1+1<w1.heap.size+1:=by omega
  have y2_w1:¬w.heap.size+1+1=w1.heap.size+1+1:=by omega
  have x2_w1:w.heap.size+1+1<w1.heap.size+1+1:=by omega
  have An:∀o,w1.cell? ⟨w.heap.size,o,none⟩=(#[.int .i64 A.ix,.int .i64 A.sl,.int .i64 A.sh,.int .i64 A.po,.int .i64 A.wl,.int .i64 A.wh,.slice A.pa A.ls.length A.cap,.int .i64 A.oi,.int .i64 A.ol]:Array Value)[o]?:=fun o=>(A3 o).trans (by go_simp)
  have Ao:∀o,w1.frozen? ⟨w.heap.size,o,none⟩=false:=fun o=>(A4 o).trans (by go_simp)
  clear A3 A4
  have Ae:∀o,w1.cell? ⟨w.heap.size+1,o,none⟩=(#[.int .i64 0,.int .i64 0,.int .i64 0,.int .i64 0,.int .i64 0,.int .i64 0,.int .i64 0,.int .i64 0,.int .i64 0,.int .i64 0,.int .i64 0,.int .i64 0]:Array Value)[o]?:=fun o=>(A1 o).trans (by go_simp)
  have Af:∀o,w1.frozen? ⟨w.heap.size+1,o,none⟩=false:=fun o=>(A2 o).trans (by go_simp)
  clear A1 A2
  clear A0
  repeat (first|(with_reducible refine wp_markr 3 ?_)|go_values|go_skip|go_guarded|go_step|go_upon|(simp only[];go_simp))
  refine wp_named (fun w2 hN => ?_)
  have RT2:Rt (w.heap.size+1+1) y.q A w2:=by rw[hN];exact RT_w1.out.bel (show Below w1.heap.size w1 _ from blw)
  have As:Below w.heap.size w w2:=by rw[hN];exact blw
  have a0:∀o,w2.cell? ⟨w.heap.size,o,none⟩=(#[.int .i64 A.ix,.int .i64 A.sl,.int .i64 A.sh,.int .i64 A.po,.int .i64 A.wl,.int .i64 A.wh,.slice A.pa A.ls.length A.cap,.int .i64 A.oi,.int .i64 A.ol]:Array Value)[o]?:=fun o=>by rw[hN];go_simp
  have z0:∀o,w2.cell? ⟨w.heap.size+1,o,none⟩=(#[.int .i64 0,.int .i64 0,.int .i64 0,.int .i64 0,.int .i64 0,.int .i64 0,.int .i64 0,.int .i64 0,.int .i64 0,.int .i64 0,.int .i64 0,.int .i64 0]:Array Value)[o]?:=fun o=>by rw[hN];go_simp
  have zf:∀o,w2.frozen? ⟨w.heap.size+1,o,none⟩=false:=fun o=>by rw[hN];go_simp
  have y0:∀o,w2.cell? ⟨w1.heap.size,o,none⟩=(#[.int .i64 y.a,.int .i64 y.b,.int .i64 y.c]:Array Value)[o]?:=fun o=>by rw[hN];go_simp
  have lt1:w1.heap.size<w2.heap.size:=by rw[hN];simp
  have nn1:¬w1.heap.size=w.heap.size+1+1:=by omega
  have nn2:w.heap.size+1+1<w2.heap.size:=by omega
  clear hN
  go_wp2_with fail
  refine turn_new (fun i=>i==5||i==6) 7 #[.int .i64 0,.int .i64 0,.int .i64 0,.int .i64 0,.int .i64 0,.int .i64 0,.int .i64 0,.int .i64 0,.int .i64 0,.int .i64 0,.int .i64 0,.int .i64 0] 66 _ rfl (by kernel_rfl) (by kernel_rfl) (by omega) RT2.st.cell (fun a w=>by kernel_rfl) fun hG => ?_
  have Bl:=fun o=>hG (w.heap.size) (by omega) o (ne_addr (by omega))
  have B3:=fun o=>hG (w1.heap.size) lt1 o (ne_addr (by omega))
  clear hG
  simp only[List.take_succ_cons,List.take_zero,List.drop_succ_cons,List.drop_zero]
  repeat (first|(refine wpTurn_pure rfl (fun K hK => ?_);go_simp;first|(refine hK _ _ ?_;clear hK K)|(apply Exists.intro;refine⟨fun _ _ => ?_,hK _ _ ?_⟩;(first|fail);clear hK K))|(refine wpTurn_eff rfl (fun K hK => ?_);go_simp;(first|with_reducible refine⟨_,_,fun _=>tur_rt RT2 (fun w h=>F2.out _ w h),?_⟩|with_reducible refine⟨_,_,fun _=>tur_st RT2.st (fun w h=>MX.out _ w h),?_⟩);refine hK _ _ ?_;clear hK K))
  refine wpTurn_nil ?_
  intro B1 w3 hN
  obtain⟨A8,Bn,Bm,Bq,Br⟩:=hN
  have RT_w3:=Lib.hid (RT2.turn A8)
  have Bs:=A8.size_le
  have Bp:Below w.heap.size w w3:=Below.trans As (A8.below (by first|omega|(simp;omega)) (by first|omega|(simp;omega)))
  have z3:=fun o=>(A8.other (k:=w.heap.size+1) (o:=o) lto (ne_addr (by omega))).trans (z0 o)
  have zf3:=fun o=>(A8.free (k:=w.heap.size+1) (o:=o) lto).trans (zf o)
  have Bu:=RT_w3.out.st.cell
  clear Bl B3 A8 a0 y0 z0 zf
  have nb0:¬B1=w.heap.size+1+1:=by omega
  have nb1:¬w.heap.size+1+1=B1:=by omega
  have nb2:¬B1=w.heap.size+1:=by omega
  have nb3:¬w.heap.size+1=B1:=by omega
  have nb4:w.heap.size+1<w3.heap.size:=by omega
  repeat' (first|go_values|go_skip|go_guarded|go_step|go_upon|(simp only[];go_simp))
  (with_reducible show bodyPost _ _ _ _ _ _);refine bodyPost_ret (by simp[results,Tryz.results50,go_sem, *];first|done|rfl) rfl ?_
  exact⟨rfl,blw⟩
 ·have hq1:(q != 0)=true:=by simpa using hq
  obtain⟨xa,xb,xc⟩:=aft_bad hq M0
  obtain⟨ya,yb,yc⟩:=aft_bad hq M1
  obtain⟨ua,ub,uc⟩:=aft_bad hq M2
  obtain⟨va,vb,vc⟩:=aft_bad hq M3
  subst hN
  dsimp only
  rw[xa,xb,xc,ya,yb,yc,ua,ub,uc,va,vb,vc]
  clear xa xb xc ya yb yc ua ub uc va vb vc
  go_enter Tryz.func50,Tryz.ntmps50
  go_wp2_with fail
  refine(F1.out (w.heap.size+1+1) _ ⟨⟨by go_simp,by go_simp,by simp⟩,HR.out.bel blw,fun a h hl=>by have:=HP.out a h hl;omega⟩).mono ?_
  rintro e w1 ⟨rfl,A0⟩
  have RT_w1:=Lib.hid (Rt.turn (e:=0) (A:=A) ⟨⟨by go_simp,by go_simp,by simp⟩,HR.out.bel blw,fun a h hl=>by have:=HP.out a h hl;omega⟩ A0)
  have Aj:=A0.size_le
  (try simp at Aj)
  have B2:Below w.heap.size w w1:=Below.trans (show Below w.heap.size w _ from blw) (A0.below (by first|omega|(simp;omega)) (by first|omega|(simp;omega)))
  have A3:=tnc A0 (w.heap.size)
  have A4:=tnf A0 (w.heap.size)
  have A1:=tnc A0 (w.heap.size+1)
  have A2:=tnf A0 (w.heap.size+1)
  have Bj:=RT_w1.out.st.cell
  have Bk:=RT_w1.out.st.free
  have Bo:=RT_w1.out.st.lt
  have Ap:w.heap.size<w1.heap.size:=by omega
  have Ak:¬w.heap.size=w1.heap.size:=by omega
  have Aq:w.heap.size<w1.heap.size+1:=by omega
  have Al:¬w.heap.size=w1.heap.size+1:=by omega
  have Ar:w.heap.size<w1.heap.size+1+1:=by omega
  have Am:¬w.heap.size=w1.heap.size+1+1:=by omega
  have Ag:w.heap.size+1<w1.heap.size:=by omega
  have Ab:¬w.heap.size+1=w1.heap.size:=by omega
  have Ah:w.heap.size+1<w1.heap.size+1:=by omega
  have Ac:¬w.heap.size+1=w1.heap.size+1:=by omega
  have Ai:w.heap.size+1<w1.heap.size+1+1:=by omega
  have Ad:¬w.heap.size+1=w1.heap.size+1+1:=by omega
  have y0_w1:¬w.heap.size+1+1=w1.heap.size:=by omega
  have x0_w1:w.heap.size+1+1<w1.heap.size:=by omega
  have y1_w1:¬w.heap.size+1+1=w1.heap.size+1:=by omega
  have x1_w1:w.heap.size+1+1<w1.heap.size+1:=by omega
  have y2_w1:¬w.heap.size+1+1=w1.heap.size+1+1:=by omega
  have x2_w1:w.heap.size+1+1<w1.heap.size+1+1:=by omega
  have An:∀o,w1.cell? ⟨w.heap.size,o,none⟩=(#[.int .i64 A.ix,.int .i64 A.sl,.int .i64 A.sh,.int .i64 A.po,.int .i64 A.wl,.int .i64 A.wh,.slice A.pa A.ls.length A.cap,.int .i64 A.oi,.int .i64 A.ol]:Array Value)[o]?:=fun o=>(A3 o).trans (by go_simp)
  have Ao:∀o,w1.frozen? ⟨w.heap.size,o,none⟩=false:=fun o=>(A4 o).trans (by go_simp)
  clear A3 A4
  have Ae:∀o,w1.cell? ⟨w.heap.size+1,o,none⟩=(#[.int .i64 0,.int .i64 0,.int .i64 0,.int .i64 0,.int .i64 0,.int .i64 0,.int .i64 0,.int .i64 0,.int .i64 0,.int .i64 0,.int .i64 0,.int .i64 0]:Array Value)[o]?:=fun o=>(A1 o).trans (by go_simp)
  have Af:∀o,w1.frozen? ⟨w.heap.size+1,o,none⟩=false:=fun o=>(A2 o).trans (by go_simp)
  clear A1 A2
  clear A0
  repeat (first|(with_reducible refine wp_markr 3 ?_)|go_values|go_skip|go_guarded|go_step|go_upon|(simp only[];go_simp))
  refine wp_named (fun w2 hN => ?_)
  have RT2:Rt (w.heap.size+1+1) y.q A w2:=by rw[hN];exact RT_w1.out.bel (show Below w1.heap.size w1 _ from blw)
  have As:Below w.heap.size w w2:=by rw[hN];exact blw
  have a0:∀o,w2.cell? ⟨w.heap.size,o,none⟩=(#[.int .i64 A.ix,.int .i64 A.sl,.int .i64 A.sh,.int .i64 A.po,.int .i64 A.wl,.int .i64 A.wh,.slice A.pa A.ls.length A.cap,.int .i64 A.oi,.int .i64 A.ol]:Array Value)[o]?:=fun o=>by rw[hN];go_simp
  have z0:∀o,w2.cell? ⟨w.heap.size+1,o,none⟩=(#[.int .i64 0,.int .i64 0,.int .i64 0,.int .i64 0,.int .i64 0,.int .i64 0,.int .i64 0,.int .i64 0,.int .i64 0,.int .i64 0,.int .i64 0,.int .i64 0]:Array Value)[o]?:=fun o=>by rw[hN];go_simp
  have zf:∀o,w2.frozen? ⟨w.heap.size+1,o,none⟩=false:=fun o=>by rw[hN];go_simp
  have y0:∀o,w2.cell? ⟨w1.heap.size,o,none⟩=(#[.int .i64 y.a,.int .i64 y.b,.int .i64 y.c]:Array Value)[o]?:=fun o=>by rw[hN];go_simp
  have lt1:w1.heap.size<w2.heap.size:=by rw[hN];simp
  have nn1:¬w1.heap.size=w.heap.size+1+1:=by omega
  have nn2:w.heap.size+1+1<w2.heap.size:=by omega
  clear hN
  go_wp2_with fail
  refine turn_new (fun i=>i==5||i==6) 7 #[.int .i64 0,.int .i64 0,.int .i64 0,.int .i64 0,.int .i64 0,.int .i64 0,.int .i64 0,.int .i64 0,.int .i64 0,.int .i64 0,.int .i64 0,.int .i64 0] 66 _ rfl (by kernel_rfl) (by kernel_rfl) (by omega) RT2.st.cell (fun a w=>by kernel_rfl) fun hG => ?_
  have Bl:=fun o=>hG (w.heap.size) (by omega) o (ne_addr (by omega))
  have B3:=fun o=>hG (w1.heap.size) lt1 o (ne_addr (by omega))
  clear hG
  simp only[List.take_succ_cons,List.take_zero,List.drop_succ_cons,List.drop_zero]
  repeat (first|(refine wpTurn_pure rfl (fun K hK => ?_);go_simp;first|(refine hK _ _ ?_;clear hK K)|(apply Exists.intro;refine⟨fun _ _ => ?_,hK _ _ ?_⟩;(first|fail);clear hK K))|(refine wpTurn_eff rfl (fun K hK => ?_);go_simp;(first|with_reducible refine⟨_,_,fun _=>tur_rt RT2 (fun w h=>F2.out _ w h),?_⟩|with_reducible refine⟨_,_,fun _=>tur_st RT2.st (fun w h=>MX.out _ w h),?_⟩);refine hK _ _ ?_;clear hK K))
  refine wpTurn_nil ?_
  intro B1 w3 hN
  obtain⟨A8,Bn,Bm,Bq,Br⟩:=hN
  have RT_w3:=Lib.hid (RT2.turn A8)
  have Bs:=A8.size_le
  have Bp:Below w.heap.size w w3:=Below.trans As (A8.below (by first|omega|(simp;omega)) (by first|omega|(simp;omega)))
  have z3:=fun o=>(A8.other (k:=w.heap.size+1) (o:=o) lto (ne_addr (by omega))).trans (z0 o)
  have zf3:=fun o=>(A8.free (k:=w.heap.size+1) (o:=o) lto).trans (zf o)
  have Bu:=RT_w3.out.st.cell
  clear Bl B3 A8 a0 y0 z0 zf
  have nb0:¬B1=w.heap.size+1+1:=by omega
  have nb1:¬w.heap.size+1+1=B1:=by omega
  have nb2:¬B1=w.heap.size+1:=by omega
  have nb3:¬w.heap.size+1=B1:=by omega
  have nb4:w.heap.size+1<w3.heap.size:=by omega
  go_wp2_with fail
  (go_region_held3 (fun w'=>w'.cell? ⟨w.heap.size+1+1,0,none⟩=some (.int .i64 q)) (simp[*,go_sem]) (fail))
  repeat' (first|go_values|go_skip|go_guarded|go_step|go_upon|(simp only[];go_simp))
  (with_reducible show bodyPost _ _ _ _ _ _);refine bodyPost_ret (by simp[results,Tryz.results50,go_sem, *];first|done|rfl) rfl ?_
  exact⟨rfl,blw⟩
end Go.Proofs.YtnljkhlmdacfaaaGreatDoor
