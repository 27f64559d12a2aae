/- The normal index and the admittance of a medium: the reference's public functions. -/
import Derived.Test.YtnljkhlmdacfaaaGreatDoorKRa
import Derived.Test.YtnljkhlmdacfaaaGreatDoorKRefl
import Derived.Deep.RegionHeld3
namespace Go.Proofs.YtnljkhlmdacfaaaGreatDoor
open Go Go.Sort Go.RowKit
set_option maxHeartbeats 4000000 in
theorem rAdmittance_any (A:Ask) (hA:AskOk A) (m:Int) (b:Box) (hM:RMed A m b) (w:World) (hr:Row A.pa A.ls w) :
  Calls Tryz.prog 44 #[A.val,.int .i64 m] w fun E w'=>E = .returned (.tuple #[.agg #[.int .i64 (admR 0 A b).a,.int .i64 (admR 0 A b).b,.int .i64 (admR 0 A b).c],.int .i64 (admR 0 A b).q])∧Below w.heap.size w w':=by
 have AM:=fun B=>r_adm B 0 A m b hA hM
 generalize admR 0 A b=R at *
 unfold RLG Ask.val at AM
 unfold Ask.val
 have AM:=Lib.hid AM
 have HR:=Lib.hid hr
 have HP:=Lib.hid hr.blk
 clear hr hA hM
 go_enter Tryz.func44,Tryz.ntmps44
 go_wp2_with fail
 refine(AM.out (w.heap.size+1+1) _ ⟨⟨by go_simp,by go_simp,by simp⟩,HR.out.bel blw,fun a h hl=>by have:=HP.out a h hl;omega⟩).mono ?_
 rintro e w1 ⟨rfl,A2⟩
 have A3:=A2.size_le
 (try simp at A3)
 have A4:Below w.heap.size w w1:=Below.trans (show Below w.heap.size w _ from blw) (A2.below (by omega) (by simp;omega))
 have S1:=St.turn (e:=0) ⟨by go_simp,by go_simp,by simp⟩ A2
 have A5:=S1.cell
 have A6:=S1.free
 have A7:=S1.lt
 have A0:=fun o=>A2.other (k:=w.heap.size+1) (o:=o) (by first|(simp;done)|(simp;omega)) (ne_addr (by omega))
 have A1:=fun o=>A2.free (k:=w.heap.size+1) (o:=o) (by first|(simp;done)|(simp;omega))
 have s0:w1.cell? ⟨w.heap.size+1,0,none⟩=some (.int .i64 0):=(A0 0).trans (by go_simp)
 have s1:w1.cell? ⟨w.heap.size+1,1,none⟩=some (.int .i64 0):=(A0 1).trans (by go_simp)
 have s2:w1.cell? ⟨w.heap.size+1,2,none⟩=some (.int .i64 0):=(A0 2).trans (by go_simp)
 have sf:∀o,w1.frozen? ⟨w.heap.size+1,o,none⟩=false:=fun o=>(A1 o).trans (by go_simp)
 clear A0 A1
 have n0:w.heap.size+1<w1.heap.size:=by omega
 have n1:¬w.heap.size+1=w1.heap.size:=by omega
 have n2:¬w.heap.size+1+1=w1.heap.size:=by omega
 have n3:w.heap.size+1<w1.heap.size+1:=by omega
 have n4:w.heap.size+1+1<w1.heap.size+1:=by omega
 go_wp2_with fail
 (go_region_held3 (fun w'=>w'.cell? ⟨w.heap.size+1+1,0,none⟩=some (.int .i64 R.q)∧w'.cell? ⟨w1.heap.size,0,none⟩=some (.int .i64 R.a)∧w'.cell? ⟨w1.heap.size,1,none⟩=some (.int .i64 R.b)∧w'.cell? ⟨w1.heap.size,2,none⟩=some (.int .i64 R.c)) (simp[*,go_sem]) (fail))
 repeat' (first|go_values|go_skip|go_guarded|go_step|go_upon|(simp only[];go_simp))
 (with_reducible show bodyPost _ _ _ _ _ _);refine bodyPost_ret (by simp[results,Tryz.results44,go_sem, *];first|done|rfl) rfl ?_
 exact⟨rfl,blw⟩
set_option maxHeartbeats 4000000 in
theorem rNormalIndex_any (A:Ask) (hA:AskOk A) (m:Int) (b:Box) (hM:RMed A m b) (w:World) (hr:Row A.pa A.ls w) :
  Calls Tryz.prog 43 #[A.val,.int .i64 m] w fun E w'=>E = .returned (.tuple #[.agg #[.int .i64 (norR 0 A b).a,.int .i64 (norR 0 A b).b,.int .i64 (norR 0 A b).c],.int .i64 (norR 0 A b).q])∧Below w.heap.size w w':=by
 have AM:=fun B=>r_normal B 0 A m b hA hM
 generalize norR 0 A b=R at *
 unfold RNG Ask.val at AM
 unfold Ask.val
 generalize nnR 0 A b=nn at *
 generalize stopR 0 A b=st at *
 have AM:=Lib.hid AM
 have HR:=Lib.hid hr
 have HP:=Lib.hid hr.blk
 clear hr hA hM
 go_enter Tryz.func43,Tryz.ntmps43
 go_wp2_with fail
 refine(AM.out (w.heap.size+1+1) _ ⟨⟨by go_simp,by go_simp,by simp⟩,HR.out.bel blw,fun a h hl=>by have:=HP.out a h hl;omega⟩).mono ?_
 rintro e w1 ⟨rfl,A2⟩
 have A3:=A2.size_le
 (try simp at A3)
 have A4:Below w.heap.size w w1:=Below.trans (show Below w.heap.size w _ from blw) (A2.below (by omega) (by simp;omega))
 have S1:=St.turn (e:=0) ⟨by go_simp,by go_simp,by simp⟩ A2
 have A5:=S1.cell
 have A6:=S1.free
 have A7:=S1.lt
 have A0:=fun o=>A2.other (k:=w.heap.size+1) (o:=o) (by first|(simp;done)|(simp;omega)) (ne_addr (by omega))
 have A1:=fun o=>A2.free (k:=w.heap.size+1) (o:=o) (by first|(simp;done)|(simp;omega))
 have s0:w1.cell? ⟨w.heap.size+1,0,none⟩=some (.int .i64 0):=(A0 0).trans (by go_simp)
 have s1:w1.cell? ⟨w.heap.size+1,1,none⟩=some (.int .i64 0):=(A0 1).trans (by go_simp)
 have s2:w1.cell? ⟨w.heap.size+1,2,none⟩=some (.int .i64 0):=(A0 2).trans (by go_simp)
 have sf:∀o,w1.frozen? ⟨w.heap.size+1,o,none⟩=false:=fun o=>(A1 o).trans (by go_simp)
 clear A0 A1
 have n0:w.heap.size+1<w1.heap.size:=by omega
 have n1:¬w.heap.size+1=w1.heap.size:=by omega
 have n2:¬w.heap.size+1+1=w1.heap.size:=by omega
 have n3:w.heap.size+1<w1.heap.size+1:=by omega
 have n4:w.heap.size+1+1<w1.heap.size+1:=by omega
 go_wp2_with fail
 (go_region_held3 (fun w'=>w'.cell? ⟨w.heap.size+1+1,0,none⟩=some (.int .i64 R.q)∧w'.cell? ⟨w1.heap.size,0,none⟩=some (.int .i64 R.a)∧w'.cell? ⟨w1.heap.size,1,none⟩=some (.int .i64 R.b)∧w'.cell? ⟨w1.heap.size,2,none⟩=some (.int .i64 R.c)) (simp[*,go_sem]) (fail))
 repeat' (first|go_values|go_skip|go_guarded|go_step|go_upon|(simp only[];go_simp))
 (with_reducible show bodyPost _ _ _ _ _ _);refine bodyPost_ret (by simp[results,Tryz.results43,go_sem, *];first|done|rfl) rfl ?_
 exact⟨rfl,blw⟩
end Go.Proofs.YtnljkhlmdacfaaaGreatDoor
