/- The factors and the matrix of a layer: the program's walks. -/
import Derived.Test.YtnljkhlmdacfaaaGreatDoorPubs
import Derived.Deep.RegionHeld3
namespace Go.Proofs.YtnljkhlmdacfaaaGreatDoor
open Go Go.Sort Go.RowKit
set_option maxRecDepth 100000 in
set_option maxHeartbeats 8000000 in
theorem Factors_good (A:Ask) (m:Int) (hq:opQ A m 1 0=0) (j:Nat) (b:Box) (hj:A.ls[j]?=some b) (hm:m=j+1) (w:World) (hr:Row A.pa A.ls w) (hpa:∀a,A.pa=some a→a.block<w.heap.size) :
  Calls Tryz.prog 46 #[A.val,.int .i64 m] w fun e w'=>e = .returned (.tuple #[.agg #[bz (after (facR (facR 0 A b 1).q A b 2).q (facR 0 A b 1)),br (after (facR (facR 0 A b 1).q A b 2).q (facR 0 A b 1)),bz (after (facR (facR 0 A b 1).q A b 2).q (facR (facR 0 A b 1).q A b 2)),br (after (facR (facR 0 A b 1).q A b 2).q (facR (facR 0 A b 1).q A b 2))],.int .i64 (facR (facR 0 A b 1).q A b 2).q])∧Below w.heap.size w w':=by
 have hA:=ckQ_ok (opQ_ok hq).1
 have OP:=fun w hr hpa=>openMedium_good A m 1 0 (by decide) (by decide) hq w hr hpa
 have F1:=fun n=>factor_any n 0 A m b j 1 hA hj hm (.inl rfl)
 have F2:=fun n=>factor_any n (facR 0 A b 1).q A m b j 2 hA hj hm (.inr rfl)
 generalize facR 0 A b 1=f at *
 generalize facR f.q A b 2=g at *
 have R2:=fun n w S=>result2_any n g.q f g w S
 unfold bz br at R2 ⊢
 obtain⟨X,hX⟩:∃X,after g.q f=X:=⟨_,rfl⟩
 obtain⟨Y,hY⟩:∃Y,after g.q g=Y:=⟨_,rfl⟩
 simp only[hX,hY]at R2 ⊢
 unfold Ask.val at OP ⊢
 have OP:=Lib.hid OP
 have F1:=Lib.hid F1
 have F2:=Lib.hid F2
 have R2:=Lib.hid R2
 have HR:=Lib.hid hr
 have HP:=Lib.hid hpa
 clear hr hpa hA hq hj hm hX hY
 go_enter Tryz.func46,Tryz.ntmps46
 go_wp2_with fail
 refine(OP.out _ (HR.out.bel blw) (fun a h=>by have:=HP.out a h;simp;omega)).mono ?_
 rintro e w1 ⟨n,hn,rfl,hL,A4⟩
 simp at hn
 have Ah:=bl5 A4 (w.heap.size)
 have A6:=bl5 A4 (w.heap.size+1)
 go_wp2_with fail
 refine(F1.out n _ hL).mono ?_
 rintro e w2 ⟨rfl,A3⟩
 have Ao:=A3.size_le
 have A1:=fun o=>A3.other (k:=w.heap.size+1) (o:=o) (by omega) (ne_addr (by omega))
 have A2:=fun o=>A3.free (k:=w.heap.size+1) (o:=o) (by omega)
 have Ak:Below w.heap.size w w2:=Below.trans (show Below w.heap.size w w1 from blw) (A3.below (by omega) (by omega))
 have HL:=Lib.hid (hL.turn A3)
 have hz2:=HL.out.st.lt
 clear hL A3
 have z2:w.heap.size+1<w2.heap.size:=by omega
 have y2:¬w.heap.size+1=w2.heap.size:=by omega
 have x2:w.heap.size+1<w2.heap.size+1:=by omega
 have Ad:∀o,w2.cell? ⟨w.heap.size+1,o,none⟩=(#[.complex .f64 0 0,.int .i64 0,.complex .f64 0 0,.int .i64 0]:Array Value)[o]?:=fun o=>(A1 o).trans (by go_simp)
 have Ae:∀o,w2.frozen? ⟨w.heap.size+1,o,none⟩=false:=fun o=>(A2 o).trans (by go_simp)
 clear A1 A2
 go_wp2_with fail
 go_region_held3 (fun w'=>w'.cell? ⟨w2.heap.size,0,none⟩=some (.complex .f64 (fl f.a) (fl f.b))∧w'.cell? ⟨w2.heap.size,1,none⟩=some (.int .i64 f.c)) (simp[*,go_sem])
  (first
   | (go_at_call 116;refine(F2.out n _ (HL.out.bel (show Below w2.heap.size w2 _ from blw))).mono ?_;rintro e w3 ⟨rfl,A0⟩;have HL3:=Lib.hid ((HL.out.bel (show Below w2.heap.size w2 _ from blw)).turn A0);have Af:=A0.size_le;(try simp at Af);have A9:=tnc A0 (w.heap.size+1);have Ab:=tnf A0 (w.heap.size+1);have Am:=tnc A0 (w2.heap.size);have Al:Below w.heap.size w w3:=Below.trans (show Below w.heap.size w _ from blw) (A0.below (by first|omega|(simp;omega)) (by first|omega|(simp;omega)));have z3:w.heap.size+1<w3.heap.size:=(by omega);have y3:¬w.heap.size+1=w3.heap.size:=(by omega);clear A0)
   | (go_at_call 117;refine(R2.out n _ (HL3.out.bel (show Below w3.heap.size w3 _ from blw)).st).mono ?_;rintro e w4 ⟨rfl,A7⟩;have Ag:=A7.size;(try simp at Ag);have An:=blc A7 (w2.heap.size);have Aa:=blc A7 (w.heap.size+1);have Ac:=blf A7 (w.heap.size+1);have z4:w.heap.size+1<w4.heap.size:=(by omega)))
 all_goals go_wp2
 all_goals refine bodyPost_ret (by simp[results,Tryz.results46,go_sem, *];first|done|rfl) rfl ?_
 all_goals exact⟨rfl,blw⟩
set_option maxRecDepth 100000 in
set_option maxHeartbeats 4000000 in
theorem Factors_bad (A:Ask) (m:Int) (hq:¬opQ A m 1 0=0) (w:World) (hr:Row A.pa A.ls w) (hpa:∀a,A.pa=some a→a.block<w.heap.size) :
  Calls Tryz.prog 46 #[A.val,.int .i64 m] w fun e w'=>e = .returned (.tuple #[.agg #[.complex .f64 0 0,.int .i64 0,.complex .f64 0 0,.int .i64 0],.int .i64 (opQ A m 1 0)])∧Below w.heap.size w w':=by
 have OP:=fun w hr hpa=>openMedium_bad A m 1 0 (by decide) (by decide) hq w hr hpa
 unfold Ask.val at OP ⊢
 generalize opQ A m 1 0=q at *
 have hq1:(q != 0)=true:=by simpa using hq
 have OP:=Lib.hid OP
 have HR:=Lib.hid hr
 have HP:=Lib.hid hpa
 clear hr hpa hq
 go_enter Tryz.func46,Tryz.ntmps46
 go_wp2_with fail
 refine(OP.out _ (HR.out.bel blw) (fun a h=>by have:=HP.out a h;simp;omega)).mono ?_
 rintro e w1 ⟨n,rfl,A4⟩
 have A6:=bl5 A4 (w.heap.size+1)
 repeat' (first|go_values|go_skip|go_guarded|go_step|go_upon|(simp only[];go_simp))
 refine bodyPost_ret (by simp[results,Tryz.results46,go_sem, *];first|done|rfl) rfl ?_
 exact⟨rfl,blw⟩
set_option maxRecDepth 100000 in
set_option maxHeartbeats 8000000 in
theorem MatrixOf_good (A:Ask) (m:Int) (hq:opQ A m 1 0=0) (j:Nat) (b:Box) (hj:A.ls[j]?=some b) (hm:m=j+1) (y g:Res) (M:Mat) (q:Int) (hy:admR 0 A b=y) (hg:facR y.q A b 2=g) (hM:matR g.q y g=(M,q)) (w:World) (hr:Row A.pa A.ls w) (hpa:∀a,A.pa=some a→a.block<w.heap.size) :
  Calls Tryz.prog 47 #[A.val,.int .i64 m] w fun e w'=>e = .returned (.tuple #[.agg (Mat.mk (after q M.m0) (after q M.m1) (after q M.m2) (after q M.m3)).cells,.int .i64 q])∧Below w.heap.size w w':=by
 have hA:=ckQ_ok (opQ_ok hq).1
 have OP:=fun w hr hpa=>openMedium_good A m 1 0 (by decide) (by decide) hq w hr hpa
 have F1:=fun n=>adm_any n 0 A m b hA (by rw[hm];exact med_layer A hA j b hj)
 have F2:=fun n=>factor_any n y.q A m b j 2 hA hj hm (.inr rfl)
 have fy:=fine_adm 0 A b
 have fg:=fine_fac y.q A b 2
 rw[hy]at F1 fy
 rw[hg]at F2 fg
 have MX:=fun n w L=>matrix_any n g.q A y g fy fg w L
 rw[hM]at MX
 have R4:=fun n w S=>result4_any n q M.m0 M.m1 M.m2 M.m3 w S
 unfold Mat.cells at MX ⊢
 unfold bz br at R4
 dsimp only at MX ⊢
 generalize after q M.m0=X at *
 generalize after q M.m1=Y at *
 generalize after q M.m2=Z at *
 generalize after q M.m3=V at *
 unfold Ask.val at OP ⊢
 have OP:=Lib.hid OP
 have F1:=Lib.hid F1
 have F2:=Lib.hid F2
 have MX:=Lib.hid MX
 have R4:=Lib.hid R4
 have HR:=Lib.hid hr
 have HP:=Lib.hid hpa
 clear hr hpa hA hq hj hm fy fg hy hg hM
 go_enter Tryz.func47,Tryz.ntmps47
 go_wp2_with fail
 refine(OP.out _ (HR.out.bel blw) (fun a h=>by have:=HP.out a h;simp;omega)).mono ?_
 rintro e w1 ⟨n,hn,rfl,hL,A4⟩
 simp at hn
 have Ah:=bl5 A4 (w.heap.size)
 have A6:=bl5 A4 (w.heap.size+1)
 go_wp2_with fail
 refine(F1.out n _ hL).mono ?_
 rintro e w2 ⟨rfl,A3⟩
 have Ao:=A3.size_le
 have A1:=fun o=>A3.other (k:=w.heap.size+1) (o:=o) (by omega) (ne_addr (by omega))
 have A2:=fun o=>A3.free (k:=w.heap.size+1) (o:=o) (by omega)
 have Ak:Below w.heap.size w w2:=Below.trans (show Below w.heap.size w w1 from blw) (A3.below (by omega) (by omega))
 have HL:=Lib.hid (hL.turn A3)
 have hz2:=HL.out.st.lt
 clear hL A3
 have z2:w.heap.size+1<w2.heap.size:=by omega
 have y2:¬w.heap.size+1=w2.heap.size:=by omega
 have x2:w.heap.size+1<w2.heap.size+1:=by omega
 have Ad:∀o,w2.cell? ⟨w.heap.size+1,o,none⟩=(#[.complex .f64 0 0,.int .i64 0,.complex .f64 0 0,.int .i64 0,.complex .f64 0 0,.int .i64 0,.complex .f64 0 0,.int .i64 0]:Array Value)[o]?:=fun o=>(A1 o).trans (by go_simp)
 have Ae:∀o,w2.frozen? ⟨w.heap.size+1,o,none⟩=false:=fun o=>(A2 o).trans (by go_simp)
 clear A1 A2
 go_wp2_with fail
 go_region_held3 (fun w'=>w'.cell? ⟨w2.heap.size,0,none⟩=some (.complex .f64 (fl y.a) (fl y.b))∧w'.cell? ⟨w2.heap.size,1,none⟩=some (.int .i64 y.c)) (simp[*,go_sem])
  (first
   | (go_at_call 116;refine(F2.out n _ (HL.out.bel (show Below w2.heap.size w2 _ from blw))).mono ?_;rintro e w3 ⟨rfl,A0⟩;have HL3:=Lib.hid ((HL.out.bel (show Below w2.heap.size w2 _ from blw)).turn A0);have Af:=A0.size_le;(try simp at Af);have A9:=tnc A0 (w.heap.size+1);have Ab:=tnf A0 (w.heap.size+1);have Am:=tnc A0 (w2.heap.size);have Al:Below w.heap.size w w3:=Below.trans (show Below w.heap.size w _ from blw) (A0.below (by first|omega|(simp;omega)) (by first|omega|(simp;omega)));have z3:w.heap.size+1<w3.heap.size:=(by omega);have y3:¬w.heap.size+1=w3.heap.size:=(by omega);clear A0)
   | (go_at_call 118;refine(MX.out n _ (HL3.out.bel (show Below w3.heap.size w3 _ from blw))).mono ?_;rintro e w4 ⟨rfl,A5⟩;have HL4:=Lib.hid ((HL3.out.bel (show Below w3.heap.size w3 _ from blw)).turn A5);have Ag:=A5.size_le;(try simp at Ag);have Aa:=tnc A5 (w.heap.size+1);have Ac:=tnf A5 (w.heap.size+1);have An:=tnc A5 (w2.heap.size);have A7:Below w.heap.size w w4:=Below.trans (show Below w.heap.size w _ from blw) (A5.below (by first|omega|(simp;omega)) (by first|omega|(simp;omega)));have z4:w.heap.size+1<w4.heap.size:=(by omega);have y4:¬w.heap.size+1=w4.heap.size:=(by omega);clear A5)
   | (go_at_call 100;refine(R4.out n _ (HL4.out.bel (show Below w4.heap.size w4 _ from blw)).st).mono ?_;rintro e w5 ⟨rfl,A8⟩;have Ap:=A8.size;(try simp at Ap);have Aq:=blc A8 (w2.heap.size);have Ai:=blc A8 (w.heap.size+1);have Aj:=blf A8 (w.heap.size+1);have z5:w.heap.size+1<w5.heap.size:=(by omega)))
 all_goals go_wp2
 all_goals refine bodyPost_ret (by simp[results,Tryz.results47,go_sem, *];first|done|rfl) rfl ?_
 all_goals exact⟨rfl,blw⟩
set_option maxRecDepth 100000 in
set_option maxHeartbeats 4000000 in
theorem MatrixOf_bad (A:Ask) (m:Int) (hq:¬opQ A m 1 0=0) (w:World) (hr:Row A.pa A.ls w) (hpa:∀a,A.pa=some a→a.block<w.heap.size) :
  Calls Tryz.prog 47 #[A.val,.int .i64 m] w fun e w'=>e = .returned (.tuple #[.agg #[.complex .f64 0 0,.int .i64 0,.complex .f64 0 0,.int .i64 0,.complex .f64 0 0,.int .i64 0,.complex .f64 0 0,.int .i64 0],.int .i64 (opQ A m 1 0)])∧Below w.heap.size w w':=by
 have OP:=fun w hr hpa=>openMedium_bad A m 1 0 (by decide) (by decide) hq w hr hpa
 unfold Ask.val at OP ⊢
 generalize opQ A m 1 0=q at *
 have hq1:(q != 0)=true:=by simpa using hq
 have OP:=Lib.hid OP
 have HR:=Lib.hid hr
 have HP:=Lib.hid hpa
 clear hr hpa hq
 go_enter Tryz.func47,Tryz.ntmps47
 go_wp2_with fail
 refine(OP.out _ (HR.out.bel blw) (fun a h=>by have:=HP.out a h;simp;omega)).mono ?_
 rintro e w1 ⟨n,rfl,A4⟩
 have A6:=bl5 A4 (w.heap.size+1)
 repeat' (first|go_values|go_skip|go_guarded|go_step|go_upon|(simp only[];go_simp))
 refine bodyPost_ret (by simp[results,Tryz.results47,go_sem, *];first|done|rfl) rfl ?_
 exact⟨rfl,blw⟩
end Go.Proofs.YtnljkhlmdacfaaaGreatDoor
