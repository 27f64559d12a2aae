/- Joined: AmpPub RProdPub. -/
import Derived.Test.YtnljkhlmdacfaaaGreatDoorPubs4
import Derived.Test.YtnljkhlmdacfaaaGreatDoorKYes
import Derived.Test.YtnljkhlmdacfaaaGreatDoorKCopy
import Derived.Test.YtnljkhlmdacfaaaGreatDoorRAll
import Derived.Deep.RegionHeld3
namespace Go.Proofs.YtnljkhlmdacfaaaGreatDoor
open Go Go.Sort Go.RowKit
set_option maxHeartbeats 4000000 in
theorem Product_no (A:Ask) (q:Int) (e:ckQ A=q) (hq:¬q=0) (g c:Nat) (w:World) (hr:Row (some ⟨g,0,none⟩) A.ls w) :
  Calls Tryz.prog 28 #[(A.mv (some ⟨g,0,none⟩) c).val] w fun e w'=>e = .returned (.tuple #[.agg #[.complex .f64 0 0,.int .i64 0,.complex .f64 0 0,.int .i64 0,.complex .f64 0 0,.int .i64 0,.complex .f64 0 0,.int .i64 0],.int .i64 q])∧Below w.heap.size w w':=by
 have OP:=fun w hr=>open_no (A.mv (some ⟨g,0,none⟩) c) w hr
 rw[ckQ_mv,e]at OP
 unfold Ask.mv at OP ⊢
 unfold Ask.val at OP ⊢
 have hq1:(q != 0)=true:=by simpa using hq
 have OP:=Lib.hid OP
 have HR:=Lib.hid hr
 clear hr hq e
 generalize A.ls.length=len at *
 go_enter Tryz.func28,Tryz.ntmps28
 go_wp2_with fail
 refine(OP.out _ (HR.out.bel blw)).mono ?_
 rintro e w1 ⟨n,rfl,A0⟩
 have A1:=bl5 A0 (w.heap.size+1)
 repeat' (first|go_values|go_skip|go_guarded|go_step|go_upon|(simp only[];go_simp))
 refine bodyPost_ret (by simp[results,Tryz.results28,go_sem, *];first|done|rfl) rfl ?_
 exact⟨rfl,blw⟩
set_option maxHeartbeats 4000000 in
theorem Reflected_no (A:Ask) (q:Int) (e:ckQ A=q) (hq:¬q=0) (g c:Nat) (w:World) (hr:Row (some ⟨g,0,none⟩) A.ls w) :
  Calls Tryz.prog 29 #[(A.mv (some ⟨g,0,none⟩) c).val] w fun e w'=>e = .returned (.tuple #[.agg #[.complex .f64 0 0,.int .i64 0],.int .i64 q])∧Below w.heap.size w w':=by
 have OP:=fun w hr=>open_no (A.mv (some ⟨g,0,none⟩) c) w hr
 rw[ckQ_mv,e]at OP
 unfold Ask.mv at OP ⊢
 unfold Ask.val at OP ⊢
 have hq1:(q != 0)=true:=by simpa using hq
 have OP:=Lib.hid OP
 have HR:=Lib.hid hr
 clear hr hq e
 generalize A.ls.length=len at *
 go_enter Tryz.func29,Tryz.ntmps29
 go_wp2_with fail
 refine(OP.out _ (HR.out.bel blw)).mono ?_
 rintro e w1 ⟨n,rfl,A0⟩
 have A1:=bl5 A0 (w.heap.size+1)
 repeat' (first|go_values|go_skip|go_guarded|go_step|go_upon|(simp only[];go_simp))
 refine bodyPost_ret (by simp[results,Tryz.results29,go_sem, *];first|done|rfl) rfl ?_
 exact⟨rfl,blw⟩
set_option maxHeartbeats 4000000 in
theorem Transmitted_no (A:Ask) (q:Int) (e:ckQ A=q) (hq:¬q=0) (g c:Nat) (w:World) (hr:Row (some ⟨g,0,none⟩) A.ls w) :
  Calls Tryz.prog 30 #[(A.mv (some ⟨g,0,none⟩) c).val] w fun e w'=>e = .returned (.tuple #[.agg #[.complex .f64 0 0,.int .i64 0],.int .i64 q])∧Below w.heap.size w w':=by
 have OP:=fun w hr=>open_no (A.mv (some ⟨g,0,none⟩) c) w hr
 rw[ckQ_mv,e]at OP
 unfold Ask.mv at OP ⊢
 unfold Ask.val at OP ⊢
 have hq1:(q != 0)=true:=by simpa using hq
 have OP:=Lib.hid OP
 have HR:=Lib.hid hr
 clear hr hq e
 generalize A.ls.length=len at *
 go_enter Tryz.func30,Tryz.ntmps30
 go_wp2_with fail
 refine(OP.out _ (HR.out.bel blw)).mono ?_
 rintro e w1 ⟨n,rfl,A0⟩
 have A1:=bl5 A0 (w.heap.size+1)
 repeat' (first|go_values|go_skip|go_guarded|go_step|go_upon|(simp only[];go_simp))
 refine bodyPost_ret (by simp[results,Tryz.results30,go_sem, *];first|done|rfl) rfl ?_
 exact⟨rfl,blw⟩
set_option maxRecDepth 100000 in
set_option maxHeartbeats 8000000 in
theorem Product_good (A:Ask) (hA:AskOk A) (T:Thr) (hT:thrR 0 A false=T) (w:World) (hr:Row A.pa A.ls w) (hpa:∀a,A.pa=some a→a.block<w.heap.size) :
  Calls Tryz.prog 28 #[A.val] w fun e w'=>e = .returned (.tuple #[.agg (Mat.mk (after T.q T.p.m0) (after T.q T.p.m1) (after T.q T.p.m2) (after T.q T.p.m3)).cells,.int .i64 T.q])∧Below w.heap.size w w':=by
 have OP:=fun w hr hpa=>open_any A hA w hr hpa
 have TH:=fun n w L=>through_no n 0 A hA T (by rw[← hT];unfold HidT thrR;rw[List.drop_zero]) w L
 have R4:=fun n w S=>result4_any n T.q T.p.m0 T.p.m1 T.p.m2 T.p.m3 w S
 unfold Mat.cells at TH ⊢
 unfold bz br at R4
 dsimp only at TH ⊢
 obtain⟨⟨p0,p1,p2,p3⟩,f,q⟩:=T
 dsimp only at TH R4 ⊢
 generalize after q p0=X at *
 generalize after q p1=Y at *
 generalize after q p2=Z at *
 generalize after q p3=V at *
 unfold Ask.val at OP ⊢
 have OP:=Lib.hid OP
 have TH:=Lib.hid TH
 have R4:=Lib.hid R4
 have HR:=Lib.hid hr
 have HP:=Lib.hid hpa
 clear hr hpa hA hT
 go_enter Tryz.func28,Tryz.ntmps28
 go_wp2_with fail
 refine(OP.out _ (HR.out.bel blw) (fun a h=>by have:=HP.out a h;simp;omega)).mono ?_
 rintro e w1 ⟨n,hn,rfl,hL,A0⟩
 simp at hn
 have Ay:=bl5 A0 (w.heap.size)
 have A1:=bl5 A0 (w.heap.size+1)
 go_wp2_with fail
 refine(TH.out n _ hL).mono ?_
 rintro e w2 ⟨rfl,A9⟩
 have B0:=A9.size_le
 have A3:=fun o=>A9.other (k:=w.heap.size+1) (o:=o) (by omega) (ne_addr (by omega))
 have A6:=fun o=>A9.free (k:=w.heap.size+1) (o:=o) (by omega)
 have Az:Below w.heap.size w w2:=Below.trans (show Below w.heap.size w w1 from blw) (A9.below (by omega) (by omega))
 have HL:=Lib.hid (hL.turn A9)
 clear hL
 have Ac:w.heap.size+1<w2.heap.size:=by omega
 have y2:¬w.heap.size+1=w2.heap.size:=by omega
 have x2:w.heap.size+1<w2.heap.size+1:=by omega
 have y2b:¬w.heap.size+1=w2.heap.size+1:=by omega
 have Ai:∀o,w2.cell? ⟨w.heap.size+1,o,none⟩=(#[.complex .f64 0 0,.int .i64 0,.complex .f64 0 0,.int .i64 0,.complex .f64 0 0,.int .i64 0,.complex .f64 0 0,.int .i64 0]:Array Value)[o]?:=fun o=>(A3 o).trans (by go_simp)
 have Al:∀o,w2.frozen? ⟨w.heap.size+1,o,none⟩=false:=fun o=>(A6 o).trans (by go_simp)
 clear A3 A6
 go_wp2_with fail
 refine(R4.out n _ (HL.out.bel (show Below w2.heap.size w2 _ from blw)).st).mono ?_
 rintro e w3 ⟨rfl,Aq⟩
 obtain⟨Ad,Ab,Aa,A4,A7⟩:=bl5 Aq (w.heap.size+1)
 have Aj:∀o,w3.cell? ⟨w.heap.size+1,o,none⟩=(#[.complex .f64 0 0,.int .i64 0,.complex .f64 0 0,.int .i64 0,.complex .f64 0 0,.int .i64 0,.complex .f64 0 0,.int .i64 0]:Array Value)[o]?:=fun o=>(A4 o).trans (by go_simp)
 have Am:∀o,w3.frozen? ⟨w.heap.size+1,o,none⟩=false:=fun o=>(A7 o).trans (by go_simp)
 clear A4 A7
 repeat' (first|go_values|go_skip|go_guarded|go_step|go_upon|(simp only[];go_simp))
 refine bodyPost_ret (by simp[results,Tryz.results28,go_sem, *];first|done|rfl) rfl ?_
 exact⟨rfl,blw⟩
theorem Product_to (A:Ask) (hA:AskOk A) (T:Thr) (N:Mat) (hT:thrR 0 A false=T) (hN:Mat.mk (after T.q T.p.m0) (after T.q T.p.m1) (after T.q T.p.m2) (after T.q T.p.m3)=N) (g c:Nat) (w:World) (hr:Row (some ⟨g,0,none⟩) A.ls w) (hg:g<w.heap.size) :
  Calls Tryz.prog 28 #[(A.mv (some ⟨g,0,none⟩) c).val] w fun e w'=>e = .returned (.tuple #[.agg N.cells,.int .i64 T.q])∧Below w.heap.size w w':=by
 have k:=Product_good (A.mv (some ⟨g,0,none⟩) c) (ask_ok_mv hA _ _) T (by rw[thr_mv];exact hT) w hr (fun a h=>by cases h;exact hg)
 rw[hN]at k
 exact k
theorem Reflected_to (A:Ask) (hA:AskOk A) (R:Res) (hR:ampR A false=R) (g c:Nat) (w:World) (hr:Row (some ⟨g,0,none⟩) A.ls w) (hg:g<w.heap.size) :
  Calls Tryz.prog 29 #[(A.mv (some ⟨g,0,none⟩) c).val] w fun e w'=>e = .returned (.tuple #[.agg #[.complex .f64 (fl R.a) (fl R.b),.int .i64 R.c],.int .i64 R.q])∧Below w.heap.size w w':=by
 have k:=Reflected_any (A.mv (some ⟨g,0,none⟩) c) (ask_ok_mv hA _ _) w hr (fun a h=>by cases h;exact hg)
 rw[amp_mv,hR,out_quad]at k
 exact k
theorem Transmitted_to (A:Ask) (hA:AskOk A) (R:Res) (hR:ampR A true=R) (g c:Nat) (w:World) (hr:Row (some ⟨g,0,none⟩) A.ls w) (hg:g<w.heap.size) :
  Calls Tryz.prog 30 #[(A.mv (some ⟨g,0,none⟩) c).val] w fun e w'=>e = .returned (.tuple #[.agg #[.complex .f64 (fl R.a) (fl R.b),.int .i64 R.c],.int .i64 R.q])∧Below w.heap.size w w':=by
 have k:=Transmitted_any (A.mv (some ⟨g,0,none⟩) c) (ask_ok_mv hA _ _) w hr (fun a h=>by cases h;exact hg)
 rw[amp_mv,hR,out_quad]at k
 exact k
end Go.Proofs.YtnljkhlmdacfaaaGreatDoor
namespace Go.Proofs.YtnljkhlmdacfaaaGreatDoor
open Go Go.Sort Go.RowKit
set_option maxRecDepth 100000 in
set_option maxHeartbeats 8000000 in
theorem rProduct_any (A:Ask) (hA:AskOk A) (T:Thr) (N:Mat) (hT:thrR 0 A false=T) (hN:Mat.mk (after T.q T.p.m0) (after T.q T.p.m1) (after T.q T.p.m2) (after T.q T.p.m3)=N) (w:World) (hr:Row A.pa A.ls w) :
  Calls Tryz.prog 32 #[A.val] w fun E w'=>E = .returned (.tuple #[.agg N.ints,.int .i64 T.q])∧Below w.heap.size w w':=by
 have AL:=fun B w L=>r_all B 0 A hA T (by rw[← hT];unfold HidT thrR;rw[List.drop_zero]) w L
 have HN:∀p:Mat,(T.q=0→p=T.p)→((0:Int)=0→¬T.q=0→p=⟨noneR,noneR,noneR,noneR⟩)→p.ints=N.ints:=fun p h1 h2=>by
  by_cases hq:T.q=0
  ·rw[h1 hq,← hN,hq,aft_good,aft_good,aft_good,aft_good]
  ·obtain⟨z1,z2,z3⟩:noneR.a=0∧noneR.b=0∧noneR.c=0:=by unfold noneR;exact⟨(quad_good _ _ _).1,(quad_good _ _ _).2.1,(quad_good _ _ _).2.2.1⟩
   obtain⟨xa,xb,xc⟩:=aft_bad hq T.p.m0
   obtain⟨ya,yb,yc⟩:=aft_bad hq T.p.m1
   obtain⟨ua,ub,uc⟩:=aft_bad hq T.p.m2
   obtain⟨va,vb,vc⟩:=aft_bad hq T.p.m3
   rw[h2 rfl hq,← hN]
   unfold Mat.ints
   dsimp only
   rw[z1,z2,z3,xa,xb,xc,ya,yb,yc,ua,ub,uc,va,vb,vc]
 unfold Ask.val at AL ⊢
 have AL:=Lib.hid AL
 have HN:=Lib.hid HN
 have HR:=Lib.hid hr
 have HP:=Lib.hid hr.blk
 clear hr hA hT hN
 go_enter Tryz.func32,Tryz.ntmps32
 go_wp2_with fail
 refine(AL.out (w.heap.size+1+1) _ ⟨⟨by go_simp,by go_simp,by simp⟩,HR.out.bel blw,fun a h hl=>by have:=HP.out a h hl;omega⟩).mono ?_
 rintro e w1 ⟨p,f,rfl,fp,h1,h2,A8⟩
 rw[HN.out p h1 (fun _=>h2 rfl)]
 clear HN h1 h2 fp
 obtain⟨N0,N1,N2,N3⟩:=N
 unfold Mat.ints
 dsimp only
 have RT_w1:=Lib.hid (Rt.turn (e:=0) (A:=A) ⟨⟨by go_simp,by go_simp,by simp⟩,HR.out.bel blw,fun a h hl=>by have:=HP.out a h hl;omega⟩ A8)
 have Ar:=A8.size_le
 (try simp at Ar)
 have A0:Below w.heap.size w w1:=Below.trans (show Below w.heap.size w _ from blw) (A8.below (by first|omega|(simp;omega)) (by first|omega|(simp;omega)))
 have A2:=tnc A8 (w.heap.size+1)
 have A5:=tnf A8 (w.heap.size+1)
 have B1:=RT_w1.out.st.cell
 have B2:=RT_w1.out.st.free
 have B3:=RT_w1.out.st.lt
 have Av:w.heap.size<w1.heap.size:=by omega
 have As:¬w.heap.size=w1.heap.size:=by omega
 have Aw:w.heap.size<w1.heap.size+1:=by omega
 have At:¬w.heap.size=w1.heap.size+1:=by omega
 have Ax:w.heap.size<w1.heap.size+1+1:=by omega
 have Au:¬w.heap.size=w1.heap.size+1+1:=by omega
 have An:w.heap.size+1<w1.heap.size:=by omega
 have Ae:¬w.heap.size+1=w1.heap.size:=by omega
 have Ao:w.heap.size+1<w1.heap.size+1:=by omega
 have Af:¬w.heap.size+1=w1.heap.size+1:=by omega
 have Ap:w.heap.size+1<w1.heap.size+1+1:=by omega
 have Ag:¬w.heap.size+1=w1.heap.size+1+1:=by omega
 have y0_w1:¬w.heap.size+1+1=w1.heap.size:=by omega
 have x0_w1:w.heap.size+1+1<w1.heap.size:=by omega
 have y1_w1:¬w.heap.size+1+1=w1.heap.size+1:=by omega
 have x1_w1:w.heap.size+1+1<w1.heap.size+1:=by omega
 have y2_w1:¬w.heap.size+1+1=w1.heap.size+1+1:=by omega
 have x2_w1:w.heap.size+1+1<w1.heap.size+1+1:=by omega
 have Ah:∀o,w1.cell? ⟨w.heap.size+1,o,none⟩=(#[.int .i64 0,.int .i64 0,.int .i64 0,.int .i64 0,.int .i64 0,.int .i64 0,.int .i64 0,.int .i64 0,.int .i64 0,.int .i64 0,.int .i64 0,.int .i64 0]:Array Value)[o]?:=fun o=>(A2 o).trans (by go_simp)
 have Ak:∀o,w1.frozen? ⟨w.heap.size+1,o,none⟩=false:=fun o=>(A5 o).trans (by go_simp)
 clear A2 A5
 clear A8
 go_wp2_with fail
 (go_region_held3 (fun w'=>w'.cell? ⟨w.heap.size+1+1,0,none⟩=some (.int .i64 T.q)∧w'.cell? ⟨w1.heap.size,0,none⟩=some (.int .i64 N0.a)∧w'.cell? ⟨w1.heap.size,1,none⟩=some (.int .i64 N0.b)∧w'.cell? ⟨w1.heap.size,2,none⟩=some (.int .i64 N0.c)∧w'.cell? ⟨w1.heap.size,3,none⟩=some (.int .i64 N1.a)∧w'.cell? ⟨w1.heap.size,4,none⟩=some (.int .i64 N1.b)∧w'.cell? ⟨w1.heap.size,5,none⟩=some (.int .i64 N1.c)∧w'.cell? ⟨w1.heap.size,6,none⟩=some (.int .i64 N2.a)∧w'.cell? ⟨w1.heap.size,7,none⟩=some (.int .i64 N2.b)∧w'.cell? ⟨w1.heap.size,8,none⟩=some (.int .i64 N2.c)∧w'.cell? ⟨w1.heap.size,9,none⟩=some (.int .i64 N3.a)∧w'.cell? ⟨w1.heap.size,10,none⟩=some (.int .i64 N3.b)∧w'.cell? ⟨w1.heap.size,11,none⟩=some (.int .i64 N3.c)) (simp[*,go_sem]) (fail))
 repeat' (first|go_values|go_skip|go_guarded|go_step|go_upon|(simp only[];go_simp))
 (with_reducible show bodyPost _ _ _ _ _ _);refine bodyPost_ret (by simp[results,Tryz.results32,go_sem, *];first|done|rfl) rfl ?_
 exact⟨by unfold Mat.ints;rfl,blw⟩
end Go.Proofs.YtnljkhlmdacfaaaGreatDoor
