/- The parts of a layer: the program's public function, exactly. -/
import Derived.Test.YtnljkhlmdacfaaaGreatDoorFactors
import Derived.Test.YtnljkhlmdacfaaaGreatDoorKRb
namespace Go.Proofs.YtnljkhlmdacfaaaGreatDoor
open Go Go.Sort Go.RowKit
set_option maxHeartbeats 4000000 in
theorem resultP_any (B:Nat) (q x0 x1 x2 x3:Int) (hx:¬q=0→x0=0∧x1=0∧x2=0∧x3=0) (w:World) (Ap:St B q w) :
  Calls Tryz.prog 114 #[.pointer (some ⟨B,0,none⟩),.agg #[.int .i64 x0,.int .i64 x1,.int .i64 x2,.int .i64 x3]] w fun e w'=>e = .returned (.tuple #[.agg #[.int .i64 x0,.int .i64 x1,.int .i64 x2,.int .i64 x3],.int .i64 q])∧Below w.heap.size w w':=by
 obtain⟨As,At,Au⟩:=Ap
 have Aq:B<w.heap.size+1:=by omega
 have Ar:B<w.heap.size+1+1:=by omega
 have n0:¬B=w.heap.size:=by omega
 have n1:¬B=w.heap.size+1:=by omega
 have n2:¬B=w.heap.size+1+1:=by omega
 have m0:¬w.heap.size=B:=by omega
 have m1:¬w.heap.size+1=B:=by omega
 have m2:¬w.heap.size+1+1=B:=by omega
 by_cases hq:q=0
 ·subst hq
  clear hx
  go_enter Tryz.func114,Tryz.ntmps114
  repeat' (first|go_values|go_skip|go_guarded|go_step|go_upon|(simp only[];go_simp))
  refine bodyPost_ret (by simp[results,Tryz.results114,go_sem, *];first|done|rfl) rfl ?_
  exact⟨rfl,blw⟩
 ·obtain⟨rfl,rfl,rfl,rfl⟩:=hx hq
  have hq1:(q != 0)=true:=by simpa using hq
  clear hq hx
  go_enter Tryz.func114,Tryz.ntmps114
  go_wp2_with fail
  go_region_held3 (fun w'=>w'.cell? ⟨B,0,none⟩=some (.int .i64 q)∧w'.cell? ⟨w.heap.size+1+1,0,none⟩=some (.int .i64 0)∧w'.cell? ⟨w.heap.size+1+1,1,none⟩=some (.int .i64 0)∧w'.cell? ⟨w.heap.size+1+1,2,none⟩=some (.int .i64 0)∧w'.cell? ⟨w.heap.size+1+1,3,none⟩=some (.int .i64 0)) (simp[*,go_sem]) (fail)
  repeat' (first|go_values|go_skip|go_guarded|go_step|go_upon|(simp only[];go_simp))
  refine bodyPost_ret (by simp[results,Tryz.results114,go_sem, *];first|done|rfl) rfl ?_
  exact⟨rfl,blw⟩
set_option maxHeartbeats 4000000 in
theorem PartsOfLayer_good (A:Ask) (m:Int) (hq:opQ A m 1 0=0) (j:Nat) (b:Box) (hj:A.ls[j]?=some b) (hm:m=j+1) (w:World) (hr:Row A.pa A.ls w) (hpa:∀a,A.pa=some a→a.block<w.heap.size) :
  Calls Tryz.prog 45 #[A.val,.int .i64 m] w fun e w'=>e = .returned (.tuple #[.agg #[.int .i64 (turR 0 0 A b),.int .i64 (turR 1 0 A b),.int .i64 (turR 2 0 A b),.int .i64 (turR 3 0 A b)],.int .i64 (norR 0 A b).q])∧Below w.heap.size w w':=by
 have hA:=ckQ_ok (opQ_ok hq).1
 have OP:=fun w hr hpa=>openMedium_good A m 1 0 (by decide) (by decide) hq w hr hpa
 have TU:=fun n w L=>turning_any n 0 A m b j hA hj hm w L
 have RB:=fun h=>show turR 0 0 A b=0∧turR 1 0 A b=0∧turR 2 0 A b=0∧turR 3 0 A b=0 from⟨turR_bad hA 0 h,turR_bad hA 1 h,turR_bad hA 2 h,turR_bad hA 3 h⟩
 generalize (norR 0 A b).q=q at *
 generalize turR 0 0 A b=x0 at *
 generalize turR 1 0 A b=x1 at *
 generalize turR 2 0 A b=x2 at *
 generalize turR 3 0 A b=x3 at *
 have RA:=Lib.hid (fun B w S=>resultP_any B q x0 x1 x2 x3 RB w S)
 unfold Ask.val at OP ⊢
 have OP:=Lib.hid OP
 have TU:=Lib.hid TU
 have HR:=Lib.hid hr
 have HP:=Lib.hid hpa
 clear hr hpa hA hq hj hm RB
 go_enter Tryz.func45,Tryz.ntmps45
 go_wp2_with fail
 refine(OP.out _ (HR.out.bel blw) (fun a h=>by have:=HP.out a h;simp;omega)).mono ?_
 rintro e w1 ⟨n,hn,rfl,hL,A0⟩
 simp at hn
 have A7:=A0.size
 (try simp at A7)
 obtain⟨Am,Al,Ak,Ai,Aj⟩:=bl5 A0 (w.heap.size)
 obtain⟨A6,A5,A4,A2,A3⟩:=bl5 A0 (w.heap.size+1)
 go_wp2_with fail
 refine(TU.out n _ hL).mono ?_
 rintro e w2 ⟨rfl,A1⟩
 have Ao:=A1.size_le
 have A9:=fun o=>A1.other (k:=w.heap.size+1) (o:=o) (by omega) (ne_addr (by omega))
 have Ab:=fun o=>A1.free (k:=w.heap.size+1) (o:=o) (by omega)
 have An:Below w.heap.size w w2:=Below.trans (show Below w.heap.size w w1 from blw) (A1.below (by omega) (by omega))
 have hS:=(hL.turn A1).st
 clear hL
 have Af:w.heap.size+1<w2.heap.size:=by omega
 go_wp2_with fail
 refine(RA.out n _ hS).mono ?_
 rintro e w3 ⟨rfl,A8⟩
 have Ah:=A8.size
 (try simp at Ah)
 obtain⟨Ag,Ae,Ad,Aa,Ac⟩:=bl5 A8 (w.heap.size+1)
 repeat' (first|go_values|go_skip|go_guarded|go_step|go_upon|(simp only[];go_simp))
 refine bodyPost_ret (by simp[results,Tryz.results45,go_sem, *];first|done|rfl) rfl ?_
 exact⟨rfl,blw⟩
set_option maxHeartbeats 4000000 in
theorem PartsOfLayer_bad (A:Ask) (m:Int) (hq:¬opQ A m 1 0=0) (w:World) (hr:Row A.pa A.ls w) (hpa:∀a,A.pa=some a→a.block<w.heap.size) :
  Calls Tryz.prog 45 #[A.val,.int .i64 m] w fun e w'=>e = .returned (.tuple #[.agg #[.int .i64 0,.int .i64 0,.int .i64 0,.int .i64 0],.int .i64 (opQ A m 1 0)])∧Below w.heap.size w w':=by
 have OP:=fun w hr hpa=>openMedium_bad A m 1 0 (by decide) (by decide) hq w hr hpa
 unfold Ask.val at OP ⊢
 generalize opQ A m 1 0=q at *
 have hq1:(q != 0)=true:=by simpa using hq
 have OP:=Lib.hid OP
 have HR:=Lib.hid hr
 have HP:=Lib.hid hpa
 clear hr hpa hq
 go_enter Tryz.func45,Tryz.ntmps45
 go_wp2_with fail
 refine(OP.out _ (HR.out.bel blw) (fun a h=>by have:=HP.out a h;simp;omega)).mono ?_
 rintro e w1 ⟨n,rfl,A0⟩
 have A7:=A0.size
 (try simp at A7)
 obtain⟨A6,A5,A4,A2,A3⟩:=bl5 A0 (w.heap.size+1)
 repeat' (first|go_values|go_skip|go_guarded|go_step|go_upon|(simp only[];go_simp))
 refine bodyPost_ret (by simp[results,Tryz.results45,go_sem, *];first|done|rfl) rfl ?_
 exact⟨rfl,blw⟩
end Go.Proofs.YtnljkhlmdacfaaaGreatDoor
