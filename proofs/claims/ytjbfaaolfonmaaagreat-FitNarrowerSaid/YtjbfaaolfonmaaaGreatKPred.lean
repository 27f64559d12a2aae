/- Joined: PredErr PredOk PredAll. -/
import Derived.Test.YtjbfaaolfonmaaaGreatKFit
import Derived.Deep.RegionHeld3
import Derived.BigRegion
import Derived.Maps.AppendAt
import Derived.Test.YtjbfaaolfonmaaaGreatKRefl
namespace Go.Proofs.YtjbfaaolfonmaaaGreat
open Go Go.Sort Go.RowKit
set_option maxRecDepth 100000 in
set_option maxHeartbeats 8000000 in
theorem pred_e0 (ix si wv oi ol:Int) (n cap:Nat) (pa:Option Addr) (R0:Res) (w:World)
  (RF0:(∀w',Below w.heap.size w w'→Calls Tryz.prog 127 #[.agg #[.int .i64 ix,.int .i64 si,.int .i64 si,.int .i64 0,.int .i64 wv,.int .i64 wv,.slice pa n cap,.int .i64 oi,.int .i64 ol]] w' fun E w2=>E = .returned (.tuple #[.agg #[.complex .f64 (fl R0.a) (fl R0.b),.int .i64 R0.c],.int .i64 R0.q])∧Below w'.heap.size w' w2))
  (hq:R0.q≠0)
  : Calls Tryz.prog 77 #[.agg #[.int .i64 wv,.int .i64 ix,.int .i64 si],.slice pa n cap,.agg #[.int .i64 oi,.int .i64 ol]] w fun E w'=>E = .returned (.tuple #[.agg #[.int .i64 0,.int .i64 0,.int .i64 0,.int .i64 0,.int .i64 0,.int .i64 0],.int .i64 R0.q])∧Below w.heap.size w w':=by
 have hq1:(R0.q != 0)=true:=by simpa using hq
 have RF0:=Lib.hid RF0
 go_enter Tryz.func77,Tryz.ntmps77
 go_wp2_with fail
 refine wp_loop_rounds 3 ?_
 rw[rounds_succ]
 go_wp2_with fail
 refine(RF0.out _ blw).mono ?_
 rintro e w1 ⟨rfl,A0⟩
 have Aq:=A0.size
 (try simp at Aq)
 have Bc:=bl5 A0 (w.heap.size)
 have Ar:=bl5 A0 (w.heap.size+1)
 have As:=bl5 A0 (w.heap.size+1+1)
 have B3:=bl5 A0 (w.heap.size+1+1+1)
 have B4:=bl5 A0 (w.heap.size+1+1+1+1)
 have B5:=bl5 A0 (w.heap.size+1+1+1+1+1)
 repeat' (first|go_values|go_skip|go_guarded|go_step|go_upon|(simp only[];go_simp))
 refine bodyPost_ret (by simp[results,Tryz.results77,go_sem, *];first|done|rfl) rfl ?_
 exact⟨rfl,blw⟩
set_option maxRecDepth 100000 in
set_option maxHeartbeats 8000000 in
theorem pred_e1 (ix si wv oi ol:Int) (n cap:Nat) (pa:Option Addr) (R0 R1:Res) (a0 a1:Int) (w:World)
  (RF0:(∀w',Below w.heap.size w w'→Calls Tryz.prog 127 #[.agg #[.int .i64 ix,.int .i64 si,.int .i64 si,.int .i64 0,.int .i64 wv,.int .i64 wv,.slice pa n cap,.int .i64 oi,.int .i64 ol]] w' fun E w2=>E = .returned (.tuple #[.agg #[.complex .f64 (fl R0.a) (fl R0.b),.int .i64 R0.c],.int .i64 0])∧Below w'.heap.size w' w2))
  (EN0:(∀w',Calls Tryz.prog 128 #[.agg #[.complex .f64 (fl R0.a) (fl R0.b),.int .i64 R0.c]] w' fun E w2=>E = .returned (.tuple #[.agg #[.int .i64 a0,.int .i64 a1],.int .i64 0])∧Below w'.heap.size w' w2))
  (RF1:(∀w',Below w.heap.size w w'→Calls Tryz.prog 127 #[.agg #[.int .i64 ix,.int .i64 si,.int .i64 si,.int .i64 1,.int .i64 wv,.int .i64 wv,.slice pa n cap,.int .i64 oi,.int .i64 ol]] w' fun E w2=>E = .returned (.tuple #[.agg #[.complex .f64 (fl R1.a) (fl R1.b),.int .i64 R1.c],.int .i64 R1.q])∧Below w'.heap.size w' w2))
  (hq:R1.q≠0)
  : Calls Tryz.prog 77 #[.agg #[.int .i64 wv,.int .i64 ix,.int .i64 si],.slice pa n cap,.agg #[.int .i64 oi,.int .i64 ol]] w fun E w'=>E = .returned (.tuple #[.agg #[.int .i64 0,.int .i64 0,.int .i64 0,.int .i64 0,.int .i64 0,.int .i64 0],.int .i64 R1.q])∧Below w.heap.size w w':=by
 have hq1:(R1.q != 0)=true:=by simpa using hq
 have RF0:=Lib.hid RF0
 have EN0:=Lib.hid EN0
 have RF1:=Lib.hid RF1
 go_enter Tryz.func77,Tryz.ntmps77
 go_wp2_with fail
 refine wp_loop_rounds 3 ?_
 rw[rounds_succ]
 go_wp2_with fail
 refine(RF0.out _ blw).mono ?_
 rintro e w1 ⟨rfl,A0⟩
 have Aq:=A0.size
 (try simp at Aq)
 have Bc:=bl5 A0 (w.heap.size)
 have Ar:=bl5 A0 (w.heap.size+1)
 have As:=bl5 A0 (w.heap.size+1+1)
 have B3:=bl5 A0 (w.heap.size+1+1+1)
 have B4:=bl5 A0 (w.heap.size+1+1+1+1)
 have B5:=bl5 A0 (w.heap.size+1+1+1+1+1)
 go_wp2_with fail
 refine(EN0.out _).mono ?_
 rintro e w2 ⟨rfl,A2⟩
 have Bf:=A2.size
 (try simp at Bf)
 have Dd:=bl5 A2 (w.heap.size)
 have Bi:=bl5 A2 (w.heap.size+1)
 have Bj:=bl5 A2 (w.heap.size+1+1)
 have Bk:=bl5 A2 (w.heap.size+1+1+1)
 have Bl:=bl5 A2 (w.heap.size+1+1+1+1)
 have Bm:=bl5 A2 (w.heap.size+1+1+1+1+1)
 repeat (first|(with_reducible refine wp_markr 14 ?_)|go_values|go_skip|go_guarded|go_step|go_upon|(simp only[];go_simp))
 refine wp_named (fun w3 A1 => ?_)
 have Ag:=congrArg (fun w=>w.heap.size) A1
 (try simp at Ag)
 replace Ag:=Nat.le_of_eq Ag.symm
 have Bd:Below w.heap.size w w3:=(by rw[A1];exact blw)
 have B2:=cas A1 (w.heap.size) [.int .i64 wv,.int .i64 ix,.int .i64 si]
 have An:=cas A1 (w.heap.size+1) [.int .i64 oi,.int .i64 ol]
 have Ah:=cas A1 (w.heap.size+1+1) [.int .i64 0,.int .i64 0,.int .i64 0,.int .i64 0,.int .i64 0,.int .i64 0]
 have Ao:=cas A1 (w.heap.size+1+1+1) [.complex .f64 (fl R0.a) (fl R0.b),.int .i64 R0.c,.complex .f64 0 0,.int .i64 0]
 have Ap:=cas A1 (w.heap.size+1+1+1+1) [.int .i64 a0,.int .i64 a1,.int .i64 0,.int .i64 0]
 simp only[CAf,Nat.reduceAdd,and_true]at B2 An Ah Ao Ap
 clear A1
 go_wp2_with fail
 rw[rounds_succ]
 go_wp2_with fail
 refine(RF1.out _ blw).mono ?_
 rintro e w4 ⟨rfl,A3⟩
 have Bg:=A3.size
 (try simp at Bg)
 have De:=bl5 A3 (w.heap.size)
 have Bn:=bl5 A3 (w.heap.size+1)
 have Bo:=bl5 A3 (w.heap.size+1+1)
 have Bp:=bl5 A3 (w.heap.size+1+1+1)
 have Bq:=bl5 A3 (w.heap.size+1+1+1+1)
 have Bw:=bl5 A3 (w3.heap.size)
 repeat' (first|go_values|go_skip|go_guarded|go_step|go_upon|(simp only[];go_simp))
 refine bodyPost_ret (by simp[results,Tryz.results77,go_sem, *];first|done|rfl) rfl ?_
 exact⟨rfl,blw⟩
set_option maxRecDepth 100000 in
set_option maxHeartbeats 8000000 in
theorem pred_e2 (ix si wv oi ol:Int) (n cap:Nat) (pa:Option Addr) (R0 R1 C0 M:Res) (a0 a1 c0 c1:Int) (w:World)
  (RF0:(∀w',Below w.heap.size w w'→Calls Tryz.prog 127 #[.agg #[.int .i64 ix,.int .i64 si,.int .i64 si,.int .i64 0,.int .i64 wv,.int .i64 wv,.slice pa n cap,.int .i64 oi,.int .i64 ol]] w' fun E w2=>E = .returned (.tuple #[.agg #[.complex .f64 (fl R0.a) (fl R0.b),.int .i64 R0.c],.int .i64 0])∧Below w'.heap.size w' w2))
  (RF1:(∀w',Below w.heap.size w w'→Calls Tryz.prog 127 #[.agg #[.int .i64 ix,.int .i64 si,.int .i64 si,.int .i64 1,.int .i64 wv,.int .i64 wv,.slice pa n cap,.int .i64 oi,.int .i64 ol]] w' fun E w2=>E = .returned (.tuple #[.agg #[.complex .f64 (fl R1.a) (fl R1.b),.int .i64 R1.c],.int .i64 0])∧Below w'.heap.size w' w2))
  (EN0:(∀w',Calls Tryz.prog 128 #[.agg #[.complex .f64 (fl R0.a) (fl R0.b),.int .i64 R0.c]] w' fun E w2=>E = .returned (.tuple #[.agg #[.int .i64 a0,.int .i64 a1],.int .i64 0])∧Below w'.heap.size w' w2))
  (EN1:(∀w',Calls Tryz.prog 128 #[.agg #[.complex .f64 (fl R1.a) (fl R1.b),.int .i64 R1.c]] w' fun E w2=>E = .returned (.tuple #[.agg #[.int .i64 c0,.int .i64 c1],.int .i64 0])∧Below w'.heap.size w' w2))
  (CJ:(∀w',Calls Tryz.prog 129 #[.agg #[.complex .f64 (fl R0.a) (fl R0.b),.int .i64 R0.c]] w' fun E w2=>E = .returned (.tuple #[.agg #[.complex .f64 (fl C0.a) (fl C0.b),.int .i64 C0.c],.int .i64 0])∧Below w'.heap.size w' w2))
  (TM:(∀w',Calls Tryz.prog 130 #[.agg #[.complex .f64 (fl R1.a) (fl R1.b),.int .i64 R1.c],.agg #[.complex .f64 (fl C0.a) (fl C0.b),.int .i64 C0.c]] w' fun E w2=>E = .returned (.tuple #[.agg #[.complex .f64 (fl M.a) (fl M.b),.int .i64 M.c],.int .i64 M.q])∧Below w'.heap.size w' w2))
  (hq:M.q≠0)
  : Calls Tryz.prog 77 #[.agg #[.int .i64 wv,.int .i64 ix,.int .i64 si],.slice pa n cap,.agg #[.int .i64 oi,.int .i64 ol]] w fun E w'=>E = .returned (.tuple #[.agg #[.int .i64 0,.int .i64 0,.int .i64 0,.int .i64 0,.int .i64 0,.int .i64 0],.int .i64 M.q])∧Below w.heap.size w w':=by
 have hq1:(M.q != 0)=true:=by simpa using hq
 have RF0:=Lib.hid RF0
 have RF1:=Lib.hid RF1
 have EN0:=Lib.hid EN0
 have EN1:=Lib.hid EN1
 have CJ:=Lib.hid CJ
 have TM:=Lib.hid TM
 go_enter Tryz.func77,Tryz.ntmps77
 go_wp2_with fail
 refine wp_loop_rounds 3 ?_
 rw[rounds_succ]
 go_wp2_with fail
 refine(RF0.out _ blw).mono ?_
 rintro e w1 ⟨rfl,A0⟩
 have Aq:=A0.size
 (try simp at Aq)
 have Bc:=bl5 A0 (w.heap.size)
 have Ar:=bl5 A0 (w.heap.size+1)
 have As:=bl5 A0 (w.heap.size+1+1)
 have B3:=bl5 A0 (w.heap.size+1+1+1)
 have B4:=bl5 A0 (w.heap.size+1+1+1+1)
 have B5:=bl5 A0 (w.heap.size+1+1+1+1+1)
 go_wp2_with fail
 refine(EN0.out _).mono ?_
 rintro e w2 ⟨rfl,A2⟩
 have Bf:=A2.size
 (try simp at Bf)
 have Dd:=bl5 A2 (w.heap.size)
 have Bi:=bl5 A2 (w.heap.size+1)
 have Bj:=bl5 A2 (w.heap.size+1+1)
 have Bk:=bl5 A2 (w.heap.size+1+1+1)
 have Bl:=bl5 A2 (w.heap.size+1+1+1+1)
 have Bm:=bl5 A2 (w.heap.size+1+1+1+1+1)
 repeat (first|(with_reducible refine wp_markr 14 ?_)|go_values|go_skip|go_guarded|go_step|go_upon|(simp only[];go_simp))
 refine wp_named (fun w3 A1 => ?_)
 have Ag:=congrArg (fun w=>w.heap.size) A1
 (try simp at Ag)
 replace Ag:=Nat.le_of_eq Ag.symm
 have Bd:Below w.heap.size w w3:=(by rw[A1];exact blw)
 have B2:=cas A1 (w.heap.size) [.int .i64 wv,.int .i64 ix,.int .i64 si]
 have An:=cas A1 (w.heap.size+1) [.int .i64 oi,.int .i64 ol]
 have Ah:=cas A1 (w.heap.size+1+1) [.int .i64 0,.int .i64 0,.int .i64 0,.int .i64 0,.int .i64 0,.int .i64 0]
 have Ao:=cas A1 (w.heap.size+1+1+1) [.complex .f64 (fl R0.a) (fl R0.b),.int .i64 R0.c,.complex .f64 0 0,.int .i64 0]
 have Ap:=cas A1 (w.heap.size+1+1+1+1) [.int .i64 a0,.int .i64 a1,.int .i64 0,.int .i64 0]
 simp only[CAf,Nat.reduceAdd,and_true]at B2 An Ah Ao Ap
 clear A1
 go_wp2_with fail
 rw[rounds_succ]
 go_wp2_with fail
 refine(RF1.out _ blw).mono ?_
 rintro e w4 ⟨rfl,A3⟩
 have Bg:=A3.size
 (try simp at Bg)
 have De:=bl5 A3 (w.heap.size)
 have Bn:=bl5 A3 (w.heap.size+1)
 have Bo:=bl5 A3 (w.heap.size+1+1)
 have Bp:=bl5 A3 (w.heap.size+1+1+1)
 have Bq:=bl5 A3 (w.heap.size+1+1+1+1)
 have Bw:=bl5 A3 (w3.heap.size)
 go_wp2_with fail
 refine(EN1.out _).mono ?_
 rintro e w5 ⟨rfl,A8⟩
 have Bx:=A8.size
 (try simp at Bx)
 have Ey:=bl5 A8 (w.heap.size)
 have C1:=bl5 A8 (w.heap.size+1)
 have C2:=bl5 A8 (w.heap.size+1+1)
 have C3:=bl5 A8 (w.heap.size+1+1+1)
 have C4:=bl5 A8 (w.heap.size+1+1+1+1)
 have Ea:=bl5 A8 (w3.heap.size)
 go_wp2_with fail
 rw[rounds_succ]
 repeat (first|(with_reducible refine wp_markr 15 ?_)|go_values|go_skip|go_guarded|go_step|go_upon|(simp only[];go_simp))
 refine wp_named (fun w6 A7 => ?_)
 have At:=congrArg (fun w=>w.heap.size) A7
 (try simp at At)
 replace At:=Nat.le_of_eq At.symm
 have E9:Below w.heap.size w w6:=(by rw[A7];exact blw)
 have Br:=cas A7 (w.heap.size) [.int .i64 wv,.int .i64 ix,.int .i64 si]
 have Au:=cas A7 (w.heap.size+1) [.int .i64 oi,.int .i64 ol]
 have Av:=cas A7 (w.heap.size+1+1) [.int .i64 0,.int .i64 0,.int .i64 0,.int .i64 0,.int .i64 0,.int .i64 0]
 have Aw:=cas A7 (w.heap.size+1+1+1) [.complex .f64 (fl R0.a) (fl R0.b),.int .i64 R0.c,.complex .f64 (fl R1.a) (fl R1.b),.int .i64 R1.c]
 have Ax:=cas A7 (w.heap.size+1+1+1+1) [.int .i64 a0,.int .i64 a1,.int .i64 c0,.int .i64 c1]
 simp only[CAf,Nat.reduceAdd,and_true]at Br Au Av Aw Ax
 clear A7
 go_wp2_with fail
 refine(CJ.out _).mono ?_
 rintro e w7 ⟨rfl,A9⟩
 have By:=A9.size
 (try simp at By)
 have Ez:=bl5 A9 (w.heap.size)
 have C5:=bl5 A9 (w.heap.size+1)
 have C6:=bl5 A9 (w.heap.size+1+1)
 have C7:=bl5 A9 (w.heap.size+1+1+1)
 have C8:=bl5 A9 (w.heap.size+1+1+1+1)
 have Eb:=bl5 A9 (w3.heap.size)
 go_wp2_with fail
 refine(TM.out _).mono ?_
 rintro e w8 ⟨rfl,A6⟩
 have Bz:=A6.size
 (try simp at Bz)
 have F0:=bl5 A6 (w.heap.size)
 have C9:=bl5 A6 (w.heap.size+1)
 have Ca:=bl5 A6 (w.heap.size+1+1)
 have Cb:=bl5 A6 (w.heap.size+1+1+1)
 have Cc:=bl5 A6 (w.heap.size+1+1+1+1)
 have Ec:=bl5 A6 (w3.heap.size)
 have Ed:=bl5 A6 (w7.heap.size)
 repeat' (first|go_values|go_skip|go_guarded|go_step|go_upon|(simp only[];go_simp))
 refine bodyPost_ret (by simp[results,Tryz.results77,go_sem, *];first|done|rfl) rfl ?_
 exact⟨rfl,blw⟩
set_option maxRecDepth 100000 in
set_option maxHeartbeats 8000000 in
theorem pred_e3 (ix si wv oi ol:Int) (n cap:Nat) (pa:Option Addr) (R0 R1 C0 M:Res) (a0 a1 c0 c1:Int) (w:World)
  (RF0:(∀w',Below w.heap.size w w'→Calls Tryz.prog 127 #[.agg #[.int .i64 ix,.int .i64 si,.int .i64 si,.int .i64 0,.int .i64 wv,.int .i64 wv,.slice pa n cap,.int .i64 oi,.int .i64 ol]] w' fun E w2=>E = .returned (.tuple #[.agg #[.complex .f64 (fl R0.a) (fl R0.b),.int .i64 R0.c],.int .i64 0])∧Below w'.heap.size w' w2))
  (RF1:(∀w',Below w.heap.size w w'→Calls Tryz.prog 127 #[.agg #[.int .i64 ix,.int .i64 si,.int .i64 si,.int .i64 1,.int .i64 wv,.int .i64 wv,.slice pa n cap,.int .i64 oi,.int .i64 ol]] w' fun E w2=>E = .returned (.tuple #[.agg #[.complex .f64 (fl R1.a) (fl R1.b),.int .i64 R1.c],.int .i64 0])∧Below w'.heap.size w' w2))
  (EN0:(∀w',Calls Tryz.prog 128 #[.agg #[.complex .f64 (fl R0.a) (fl R0.b),.int .i64 R0.c]] w' fun E w2=>E = .returned (.tuple #[.agg #[.int .i64 a0,.int .i64 a1],.int .i64 0])∧Below w'.heap.size w' w2))
  (EN1:(∀w',Calls Tryz.prog 128 #[.agg #[.complex .f64 (fl R1.a) (fl R1.b),.int .i64 R1.c]] w' fun E w2=>E = .returned (.tuple #[.agg #[.int .i64 c0,.int .i64 c1],.int .i64 0])∧Below w'.heap.size w' w2))
  (CJ:(∀w',Calls Tryz.prog 129 #[.agg #[.complex .f64 (fl R0.a) (fl R0.b),.int .i64 R0.c]] w' fun E w2=>E = .returned (.tuple #[.agg #[.complex .f64 (fl C0.a) (fl C0.b),.int .i64 C0.c],.int .i64 0])∧Below w'.heap.size w' w2))
  (TM:(∀w',Calls Tryz.prog 130 #[.agg #[.complex .f64 (fl R1.a) (fl R1.b),.int .i64 R1.c],.agg #[.complex .f64 (fl C0.a) (fl C0.b),.int .i64 C0.c]] w' fun E w2=>E = .returned (.tuple #[.agg #[.complex .f64 (fl M.a) (fl M.b),.int .i64 M.c],.int .i64 0])∧Below w'.heap.size w' w2))
  (p0 p1 p2 p3:Int)
  (PO:(∀w',Calls Tryz.prog 131 #[.agg #[.complex .f64 (fl M.a) (fl M.b),.int .i64 M.c]] w' fun E w2=>E = .returned (.tuple #[.agg #[.int .i64 p0,.int .i64 p1,.int .i64 p2,.int .i64 p3],.int .i64 0])∧Below w'.heap.size w' w2))
  (ha:0≤a0∧a0≤a1∧a1≤1099511627776)
  (hc:0≤c0∧c0≤c1∧c1≤1099511627776)
  (hz:a0+c0=0)
  : Calls Tryz.prog 77 #[.agg #[.int .i64 wv,.int .i64 ix,.int .i64 si],.slice pa n cap,.agg #[.int .i64 oi,.int .i64 ol]] w fun E w'=>E = .returned (.tuple #[.agg #[.int .i64 0,.int .i64 0,.int .i64 0,.int .i64 0,.int .i64 0,.int .i64 0],.int .i64 9])∧Below w.heap.size w w':=by
 have RF0:=Lib.hid RF0
 have RF1:=Lib.hid RF1
 have EN0:=Lib.hid EN0
 have EN1:=Lib.hid EN1
 have CJ:=Lib.hid CJ
 have TM:=Lib.hid TM
 have PO:=Lib.hid PO
 go_enter Tryz.func77,Tryz.ntmps77
 go_wp2_with fail
 refine wp_loop_rounds 3 ?_
 rw[rounds_succ]
 go_wp2_with fail
 refine(RF0.out _ blw).mono ?_
 rintro e w1 ⟨rfl,A0⟩
 have Aq:=A0.size
 (try simp at Aq)
 have Bc:=bl5 A0 (w.heap.size)
 have Ar:=bl5 A0 (w.heap.size+1)
 have As:=bl5 A0 (w.heap.size+1+1)
 have B3:=bl5 A0 (w.heap.size+1+1+1)
 have B4:=bl5 A0 (w.heap.size+1+1+1+1)
 have B5:=bl5 A0 (w.heap.size+1+1+1+1+1)
 go_wp2_with fail
 refine(EN0.out _).mono ?_
 rintro e w2 ⟨rfl,A2⟩
 have Bf:=A2.size
 (try simp at Bf)
 have Dd:=bl5 A2 (w.heap.size)
 have Bi:=bl5 A2 (w.heap.size+1)
 have Bj:=bl5 A2 (w.heap.size+1+1)
 have Bk:=bl5 A2 (w.heap.size+1+1+1)
 have Bl:=bl5 A2 (w.heap.size+1+1+1+1)
 have Bm:=bl5 A2 (w.heap.size+1+1+1+1+1)
 repeat (first|(with_reducible refine wp_markr 14 ?_)|go_values|go_skip|go_guarded|go_step|go_upon|(simp only[];go_simp))
 refine wp_named (fun w3 A1 => ?_)
 have Ag:=congrArg (fun w=>w.heap.size) A1
 (try simp at Ag)
 replace Ag:=Nat.le_of_eq Ag.symm
 have Bd:Below w.heap.size w w3:=(by rw[A1];exact blw)
 have B2:=cas A1 (w.heap.size) [.int .i64 wv,.int .i64 ix,.int .i64 si]
 have An:=cas A1 (w.heap.size+1) [.int .i64 oi,.int .i64 ol]
 have Ah:=cas A1 (w.heap.size+1+1) [.int .i64 0,.int .i64 0,.int .i64 0,.int .i64 0,.int .i64 0,.int .i64 0]
 have Ao:=cas A1 (w.heap.size+1+1+1) [.complex .f64 (fl R0.a) (fl R0.b),.int .i64 R0.c,.complex .f64 0 0,.int .i64 0]
 have Ap:=cas A1 (w.heap.size+1+1+1+1) [.int .i64 a0,.int .i64 a1,.int .i64 0,.int .i64 0]
 simp only[CAf,Nat.reduceAdd,and_true]at B2 An Ah Ao Ap
 clear A1
 go_wp2_with fail
 rw[rounds_succ]
 go_wp2_with fail
 refine(RF1.out _ blw).mono ?_
 rintro e w4 ⟨rfl,A3⟩
 have Bg:=A3.size
 (try simp at Bg)
 have De:=bl5 A3 (w.heap.size)
 have Bn:=bl5 A3 (w.heap.size+1)
 have Bo:=bl5 A3 (w.heap.size+1+1)
 have Bp:=bl5 A3 (w.heap.size+1+1+1)
 have Bq:=bl5 A3 (w.heap.size+1+1+1+1)
 have Bw:=bl5 A3 (w3.heap.size)
 go_wp2_with fail
 refine(EN1.out _).mono ?_
 rintro e w5 ⟨rfl,A8⟩
 have Bx:=A8.size
 (try simp at Bx)
 have Ey:=bl5 A8 (w.heap.size)
 have C1:=bl5 A8 (w.heap.size+1)
 have C2:=bl5 A8 (w.heap.size+1+1)
 have C3:=bl5 A8 (w.heap.size+1+1+1)
 have C4:=bl5 A8 (w.heap.size+1+1+1+1)
 have Ea:=bl5 A8 (w3.heap.size)
 go_wp2_with fail
 rw[rounds_succ]
 repeat (first|(with_reducible refine wp_markr 15 ?_)|go_values|go_skip|go_guarded|go_step|go_upon|(simp only[];go_simp))
 refine wp_named (fun w6 A7 => ?_)
 have At:=congrArg (fun w=>w.heap.size) A7
 (try simp at At)
 replace At:=Nat.le_of_eq At.symm
 have E9:Below w.heap.size w w6:=(by rw[A7];exact blw)
 have Br:=cas A7 (w.heap.size) [.int .i64 wv,.int .i64 ix,.int .i64 si]
 have Au:=cas A7 (w.heap.size+1) [.int .i64 oi,.int .i64 ol]
 have Av:=cas A7 (w.heap.size+1+1) [.int .i64 0,.int .i64 0,.int .i64 0,.int .i64 0,.int .i64 0,.int .i64 0]
 have Aw:=cas A7 (w.heap.size+1+1+1) [.complex .f64 (fl R0.a) (fl R0.b),.int .i64 R0.c,.complex .f64 (fl R1.a) (fl R1.b),.int .i64 R1.c]
 have Ax:=cas A7 (w.heap.size+1+1+1+1) [.int .i64 a0,.int .i64 a1,.int .i64 c0,.int .i64 c1]
 simp only[CAf,Nat.reduceAdd,and_true]at Br Au Av Aw Ax
 clear A7
 go_wp2_with fail
 refine(CJ.out _).mono ?_
 rintro e w7 ⟨rfl,A9⟩
 have By:=A9.size
 (try simp at By)
 have Ez:=bl5 A9 (w.heap.size)
 have C5:=bl5 A9 (w.heap.size+1)
 have C6:=bl5 A9 (w.heap.size+1+1)
 have C7:=bl5 A9 (w.heap.size+1+1+1)
 have C8:=bl5 A9 (w.heap.size+1+1+1+1)
 have Eb:=bl5 A9 (w3.heap.size)
 go_wp2_with fail
 refine(TM.out _).mono ?_
 rintro e w8 ⟨rfl,A6⟩
 have Bz:=A6.size
 (try simp at Bz)
 have F0:=bl5 A6 (w.heap.size)
 have C9:=bl5 A6 (w.heap.size+1)
 have Ca:=bl5 A6 (w.heap.size+1+1)
 have Cb:=bl5 A6 (w.heap.size+1+1+1)
 have Cc:=bl5 A6 (w.heap.size+1+1+1+1)
 have Ec:=bl5 A6 (w3.heap.size)
 have Ed:=bl5 A6 (w7.heap.size)
 go_wp2_with fail
 refine(PO.out _).mono ?_
 rintro e w9 ⟨rfl,Aa⟩
 have Ew:=Aa.size
 (try simp at Ew)
 have Ft:=bl5 Aa (w.heap.size)
 have F1:=bl5 Aa (w.heap.size+1)
 have F2:=bl5 Aa (w.heap.size+1+1)
 have F3:=bl5 Aa (w.heap.size+1+1+1)
 have F4:=bl5 Aa (w.heap.size+1+1+1+1)
 have F5:=bl5 Aa (w3.heap.size)
 have F6:=bl5 Aa (w7.heap.size)
 have F7:=bl5 Aa (w8.heap.size)
 repeat (first|(with_reducible refine wp_markr 24 ?_)|go_values|go_skip|go_guarded|go_step|go_upon|(simp only[];go_simp))
 refine wp_named (fun w10 Af => ?_)
 have Az:=congrArg (fun w=>w.heap.size) Af
 (try simp at Az)
 replace Az:=Nat.le_of_eq Az.symm
 have F9:Below w.heap.size w w10:=(by rw[Af];exact blw)
 have Ba:=cas Af (w.heap.size+1+1) [.int .i64 0,.int .i64 0,.int .i64 0,.int .i64 0,.int .i64 0,.int .i64 0]
 have Bb:=cas Af (w.heap.size+1+1+1+1) [.int .i64 a0,.int .i64 a1,.int .i64 c0,.int .i64 c1]
 have Bh:=cas Af (w9.heap.size) [.int .i64 p0,.int .i64 p1,.int .i64 p2,.int .i64 p3]
 simp only[CAf,Nat.reduceAdd,and_true]at Ba Bb Bh
 clear Af
 go_wp2_with fail
 clear A0 A2 Bd A3 A8 E9 A9 A6 Aa
 skip
 refine wp_cut2 (fun B0 B1 a=>(((((a.put (some 106) (.pointer (some ⟨w.heap.size+1+1+1+1,0,none⟩))).put (some 107) (.agg #[.int .i64 a0,.int .i64 a1])).put (some 108) (.pointer (some ⟨w.heap.size+1+1+1+1,2,none⟩))).put (some 109) (.agg #[.int .i64 c0,.int .i64 c1])).put (some 17) (.pointer (some ⟨B0,0,none⟩))).put (some 18) (.pointer (some ⟨B1,0,none⟩))) 17 18 #[.int .i64 a0,.int .i64 a1] #[.int .i64 c0,.int .i64 c1] ?_ ?_
 ·go_region
  all_goals
   refine⟨rfl,fun b0 b1 h0 h1 => ?_⟩
   subst h0;subst h1
   simp only[blockOf]
   go_simp
   first|exact⟨new_fst _ _ _ _ _,new_snd _ _ _ _ _⟩|exact⟨new_snd _ _ _ _ _,new_fst _ _ _ _ _⟩
 intro D0 D1 w11 hN hM B9
 obtain⟨Ay,Aj,Fe,G6,G8⟩:=hN
 obtain⟨_,Ak,Ff,G7,G9⟩:=hM
 (try simp at Aj Ak)
 have Ei:¬D1=D0:=Ne.symm B9
 have D8:=Ay.size
 (try simp at D8)
 have Ej:=bl5 Ay (w.heap.size+1+1)
 have Ex:=bl5 Ay (w9.heap.size)
 have Eg:¬D0=w.heap.size+1+1:=by first|omega|(simp at Aj;omega)
 have Ee:¬w.heap.size+1+1=D0:=by first|omega|(simp at Aj;omega)
 have Eu:¬D0=w9.heap.size:=by first|omega|(simp at Aj;omega)
 have Es:¬w9.heap.size=D0:=by first|omega|(simp at Aj;omega)
 have Eh:¬D1=w.heap.size+1+1:=by first|omega|(simp at Ak;omega)
 have Ef:¬w.heap.size+1+1=D1:=by first|omega|(simp at Ak;omega)
 have Ev:¬D1=w9.heap.size:=by first|omega|(simp at Ak;omega)
 have Et:¬w9.heap.size=D1:=by first|omega|(simp at Ak;omega)
 have W1_2:IntKind.i64.wrap (a0+c0)=0:=by rw[hz];decide
 have W1_3:IntKind.i64.wrap (a1+c1)=a1+c1:=IntWalk.i64_in _ ⟨by omega,by omega⟩
 have W1_4:IntKind.i64.wrap (c0+a0)=0:=by rw[Int.add_comm,hz];decide
 repeat' (first|go_values|go_skip|go_guarded|go_step|go_upon|(simp only[];go_simp))
 refine bodyPost_ret (by simp[results,Tryz.results77,go_sem, *];first|done|rfl) rfl ?_
 exact⟨rfl,blw⟩
end Go.Proofs.YtjbfaaolfonmaaaGreat
namespace Go.Proofs.YtjbfaaolfonmaaaGreat
open Go Go.Sort Go.RowKit
set_option maxRecDepth 100000 in
set_option maxHeartbeats 16000000 in
theorem pred_ok (ix si wv oi ol:Int) (n cap:Nat) (pa:Option Addr) (R0 R1 C0 M:Res) (a0 a1 c0 c1:Int) (w:World)
  (RF0:(∀w',Below w.heap.size w w'→Calls Tryz.prog 127 #[.agg #[.int .i64 ix,.int .i64 si,.int .i64 si,.int .i64 0,.int .i64 wv,.int .i64 wv,.slice pa n cap,.int .i64 oi,.int .i64 ol]] w' fun E w2=>E = .returned (.tuple #[.agg #[.complex .f64 (fl R0.a) (fl R0.b),.int .i64 R0.c],.int .i64 0])∧Below w'.heap.size w' w2))
  (RF1:(∀w',Below w.heap.size w w'→Calls Tryz.prog 127 #[.agg #[.int .i64 ix,.int .i64 si,.int .i64 si,.int .i64 1,.int .i64 wv,.int .i64 wv,.slice pa n cap,.int .i64 oi,.int .i64 ol]] w' fun E w2=>E = .returned (.tuple #[.agg #[.complex .f64 (fl R1.a) (fl R1.b),.int .i64 R1.c],.int .i64 0])∧Below w'.heap.size w' w2))
  (EN0:(∀w',Calls Tryz.prog 128 #[.agg #[.complex .f64 (fl R0.a) (fl R0.b),.int .i64 R0.c]] w' fun E w2=>E = .returned (.tuple #[.agg #[.int .i64 a0,.int .i64 a1],.int .i64 0])∧Below w'.heap.size w' w2))
  (EN1:(∀w',Calls Tryz.prog 128 #[.agg #[.complex .f64 (fl R1.a) (fl R1.b),.int .i64 R1.c]] w' fun E w2=>E = .returned (.tuple #[.agg #[.int .i64 c0,.int .i64 c1],.int .i64 0])∧Below w'.heap.size w' w2))
  (CJ:(∀w',Calls Tryz.prog 129 #[.agg #[.complex .f64 (fl R0.a) (fl R0.b),.int .i64 R0.c]] w' fun E w2=>E = .returned (.tuple #[.agg #[.complex .f64 (fl C0.a) (fl C0.b),.int .i64 C0.c],.int .i64 0])∧Below w'.heap.size w' w2))
  (TM:(∀w',Calls Tryz.prog 130 #[.agg #[.complex .f64 (fl R1.a) (fl R1.b),.int .i64 R1.c],.agg #[.complex .f64 (fl C0.a) (fl C0.b),.int .i64 C0.c]] w' fun E w2=>E = .returned (.tuple #[.agg #[.complex .f64 (fl M.a) (fl M.b),.int .i64 M.c],.int .i64 0])∧Below w'.heap.size w' w2))
  (p0 p1 p2 p3:Int) (PO:(∀w',Calls Tryz.prog 131 #[.agg #[.complex .f64 (fl M.a) (fl M.b),.int .i64 M.c]] w' fun E w2=>E = .returned (.tuple #[.agg #[.int .i64 p0,.int .i64 p1,.int .i64 p2,.int .i64 p3],.int .i64 0])∧Below w'.heap.size w' w2)) (ha:0≤a0∧a0≤a1∧a1≤1099511627776) (hc:0≤c0∧c0≤c1∧c1≤1099511627776) (hz:1≤a0+c0) (hp:(-134217728≤p0∧p0≤134217728)∧(-134217728≤p1∧p1≤134217728)∧(-134217728≤p2∧p2≤134217728)∧(-134217728≤p3∧p3≤134217728)) :
  Calls Tryz.prog 77 #[.agg #[.int .i64 wv,.int .i64 ix,.int .i64 si],.slice pa n cap,.agg #[.int .i64 oi,.int .i64 ol]] w fun E w'=>E = .returned (.tuple #[.agg #[.int .i64 (clamp (loN a0 c1)),.int .i64 (clamp (hiN a1 c0)),.int .i64 (clamp (loC p0 p1 (a0+c0) (a1+c1))),.int .i64 (clamp (hiC p0 p1 (a0+c0) (a1+c1))),.int .i64 (clamp (loC p2 p3 (a0+c0) (a1+c1))),.int .i64 (clamp (hiC p2 p3 (a0+c0) (a1+c1)))],.int .i64 0])∧Below w.heap.size w w':=by
 have key:Calls Tryz.prog 77 #[.agg #[.int .i64 wv,.int .i64 ix,.int .i64 si],.slice pa n cap,.agg #[.int .i64 oi,.int .i64 ol]] w fun E w'=>E = .returned (.tuple #[.agg #[.int .i64 (clamp (loN a0 c1)),.int .i64 (clamp (hiN a1 c0)),.int .i64 (clamp (loC p0 p1 (a0+c0) (a1+c1))),.int .i64 (clamp (hiC p0 p1 (a0+c0) (a1+c1))),.int .i64 (clamp (loC p2 p3 (a0+c0) (a1+c1))),.int .i64 (clamp (hiC p2 p3 (a0+c0) (a1+c1)))],.int .i64 0])∧Below w.heap.size w w':=by
  obtain⟨n0,hn0⟩:∃n,loN a0 c1=n:=⟨_,rfl⟩
  obtain⟨n1,hn1⟩:∃n,hiN a1 c0=n:=⟨_,rfl⟩
  obtain⟨x0,hx0⟩:∃n,loC p0 p1 (a0+c0) (a1+c1)=n:=⟨_,rfl⟩
  obtain⟨x1,hx1⟩:∃n,hiC p0 p1 (a0+c0) (a1+c1)=n:=⟨_,rfl⟩
  obtain⟨y0,hy0⟩:∃n,loC p2 p3 (a0+c0) (a1+c1)=n:=⟨_,rfl⟩
  obtain⟨y1,hy1⟩:∃n,hiC p2 p3 (a0+c0) (a1+c1)=n:=⟨_,rfl⟩
  have FF:Hid (∀w,Calls Tryz.prog 132 #[.int .i64 ((a0-c1)*1048576),.int .i64 (a0+c1)] w fun e w'=>e = .returned (.int .i64 n0)∧w'=w):=Lib.hid (fun w=>by have:=ffloor_any ((a0-c1)*1048576) (a0+c1) w (by omega) (by omega) (by omega) (by omega);rw[show(a0-c1)*1048576/(a0+c1)=n0 from by rw[← hn0];unfold loN;rfl]at this;exact this)
  have FC:Hid (∀w,Calls Tryz.prog 133 #[.int .i64 ((a1-c0)*1048576),.int .i64 (a1+c0)] w fun e w'=>e = .returned (.int .i64 n1)∧w'=w):=Lib.hid (fun w=>by have:=fceil_any ((a1-c0)*1048576) (a1+c0) w (by omega) (by omega) (by omega) (by omega);rw[show cdv ((a1-c0)*1048576) (a1+c0)=n1 from by rw[← hn1];unfold hiN;rfl]at this;exact this)
  have hn0:=Lib.hid hn0
  have hn1:=Lib.hid hn1
  have hx0:=Lib.hid hx0
  have hx1:=Lib.hid hx1
  have hy0:=Lib.hid hy0
  have hy1:=Lib.hid hy1
  have RF0:=Lib.hid RF0
  have RF1:=Lib.hid RF1
  have EN0:=Lib.hid EN0
  have EN1:=Lib.hid EN1
  have CJ:=Lib.hid CJ
  have TM:=Lib.hid TM
  have PO:=Lib.hid PO
  go_enter Tryz.func77,Tryz.ntmps77
  go_wp2_with fail
  refine wp_loop_rounds 3 ?_
  rw[rounds_succ]
  go_wp2_with fail
  refine(RF0.out _ blw).mono ?_
  rintro e w1 ⟨rfl,A0⟩
  have Aq:=A0.size
  (try simp at Aq)
  have Bc:=bl5 A0 (w.heap.size)
  have Ar:=bl5 A0 (w.heap.size+1)
  have As:=bl5 A0 (w.heap.size+1+1)
  have B3:=bl5 A0 (w.heap.size+1+1+1)
  have B4:=bl5 A0 (w.heap.size+1+1+1+1)
  have B5:=bl5 A0 (w.heap.size+1+1+1+1+1)
  go_wp2_with fail
  refine(EN0.out _).mono ?_
  rintro e w2 ⟨rfl,A2⟩
  have Bf:=A2.size
  (try simp at Bf)
  have Dd:=bl5 A2 (w.heap.size)
  have Bi:=bl5 A2 (w.heap.size+1)
  have Bj:=bl5 A2 (w.heap.size+1+1)
  have Bk:=bl5 A2 (w.heap.size+1+1+1)
  have Bl:=bl5 A2 (w.heap.size+1+1+1+1)
  have Bm:=bl5 A2 (w.heap.size+1+1+1+1+1)
  repeat (first|(with_reducible refine wp_markr 14 ?_)|go_values|go_skip|go_guarded|go_step|go_upon|(simp only[];go_simp))
  refine wp_named (fun w3 A1 => ?_)
  have Ag:=congrArg (fun w=>w.heap.size) A1
  (try simp at Ag)
  replace Ag:=Nat.le_of_eq Ag.symm
  have Bd:Below w.heap.size w w3:=(by rw[A1];exact blw)
  have B2:=cas A1 (w.heap.size) [.int .i64 wv,.int .i64 ix,.int .i64 si]
  have An:=cas A1 (w.heap.size+1) [.int .i64 oi,.int .i64 ol]
  have Ah:=cas A1 (w.heap.size+1+1) [.int .i64 0,.int .i64 0,.int .i64 0,.int .i64 0,.int .i64 0,.int .i64 0]
  have Ao:=cas A1 (w.heap.size+1+1+1) [.complex .f64 (fl R0.a) (fl R0.b),.int .i64 R0.c,.complex .f64 0 0,.int .i64 0]
  have Ap:=cas A1 (w.heap.size+1+1+1+1) [.int .i64 a0,.int .i64 a1,.int .i64 0,.int .i64 0]
  simp only[CAf,Nat.reduceAdd,and_true]at B2 An Ah Ao Ap
  clear A1
  go_wp2_with fail
  rw[rounds_succ]
  go_wp2_with fail
  refine(RF1.out _ blw).mono ?_
  rintro e w4 ⟨rfl,A3⟩
  have Bg:=A3.size
  (try simp at Bg)
  have De:=bl5 A3 (w.heap.size)
  have Bn:=bl5 A3 (w.heap.size+1)
  have Bo:=bl5 A3 (w.heap.size+1+1)
  have Bp:=bl5 A3 (w.heap.size+1+1+1)
  have Bq:=bl5 A3 (w.heap.size+1+1+1+1)
  have Bw:=bl5 A3 (w3.heap.size)
  go_wp2_with fail
  refine(EN1.out _).mono ?_
  rintro e w5 ⟨rfl,A8⟩
  have Bx:=A8.size
  (try simp at Bx)
  have Ey:=bl5 A8 (w.heap.size)
  have C1:=bl5 A8 (w.heap.size+1)
  have C2:=bl5 A8 (w.heap.size+1+1)
  have C3:=bl5 A8 (w.heap.size+1+1+1)
  have C4:=bl5 A8 (w.heap.size+1+1+1+1)
  have Ea:=bl5 A8 (w3.heap.size)
  go_wp2_with fail
  rw[rounds_succ]
  repeat (first|(with_reducible refine wp_markr 15 ?_)|go_values|go_skip|go_guarded|go_step|go_upon|(simp only[];go_simp))
  refine wp_named (fun w6 A7 => ?_)
  have At:=congrArg (fun w=>w.heap.size) A7
  (try simp at At)
  replace At:=Nat.le_of_eq At.symm
  have E9:Below w.heap.size w w6:=(by rw[A7];exact blw)
  have Br:=cas A7 (w.heap.size) [.int .i64 wv,.int .i64 ix,.int .i64 si]
  have Au:=cas A7 (w.heap.size+1) [.int .i64 oi,.int .i64 ol]
  have Av:=cas A7 (w.heap.size+1+1) [.int .i64 0,.int .i64 0,.int .i64 0,.int .i64 0,.int .i64 0,.int .i64 0]
  have Aw:=cas A7 (w.heap.size+1+1+1) [.complex .f64 (fl R0.a) (fl R0.b),.int .i64 R0.c,.complex .f64 (fl R1.a) (fl R1.b),.int .i64 R1.c]
  have Ax:=cas A7 (w.heap.size+1+1+1+1) [.int .i64 a0,.int .i64 a1,.int .i64 c0,.int .i64 c1]
  simp only[CAf,Nat.reduceAdd,and_true]at Br Au Av Aw Ax
  clear A7
  go_wp2_with fail
  refine(CJ.out _).mono ?_
  rintro e w7 ⟨rfl,A9⟩
  have By:=A9.size
  (try simp at By)
  have Ez:=bl5 A9 (w.heap.size)
  have C5:=bl5 A9 (w.heap.size+1)
  have C6:=bl5 A9 (w.heap.size+1+1)
  have C7:=bl5 A9 (w.heap.size+1+1+1)
  have C8:=bl5 A9 (w.heap.size+1+1+1+1)
  have Eb:=bl5 A9 (w3.heap.size)
  go_wp2_with fail
  refine(TM.out _).mono ?_
  rintro e w8 ⟨rfl,A6⟩
  have Bz:=A6.size
  (try simp at Bz)
  have F0:=bl5 A6 (w.heap.size)
  have C9:=bl5 A6 (w.heap.size+1)
  have Ca:=bl5 A6 (w.heap.size+1+1)
  have Cb:=bl5 A6 (w.heap.size+1+1+1)
  have Cc:=bl5 A6 (w.heap.size+1+1+1+1)
  have Ec:=bl5 A6 (w3.heap.size)
  have Ed:=bl5 A6 (w7.heap.size)
  go_wp2_with fail
  refine(PO.out _).mono ?_
  rintro e w9 ⟨rfl,Aa⟩
  have Ew:=Aa.size
  (try simp at Ew)
  have Ft:=bl5 Aa (w.heap.size)
  have F1:=bl5 Aa (w.heap.size+1)
  have F2:=bl5 Aa (w.heap.size+1+1)
  have F3:=bl5 Aa (w.heap.size+1+1+1)
  have F4:=bl5 Aa (w.heap.size+1+1+1+1)
  have F5:=bl5 Aa (w3.heap.size)
  have F6:=bl5 Aa (w7.heap.size)
  have F7:=bl5 Aa (w8.heap.size)
  repeat (first|(with_reducible refine wp_markr 24 ?_)|go_values|go_skip|go_guarded|go_step|go_upon|(simp only[];go_simp))
  refine wp_named (fun w10 Af => ?_)
  have Az:=congrArg (fun w=>w.heap.size) Af
  (try simp at Az)
  replace Az:=Nat.le_of_eq Az.symm
  have F9:Below w.heap.size w w10:=(by rw[Af];exact blw)
  have Ba:=cas Af (w.heap.size+1+1) [.int .i64 0,.int .i64 0,.int .i64 0,.int .i64 0,.int .i64 0,.int .i64 0]
  have Bb:=cas Af (w.heap.size+1+1+1+1) [.int .i64 a0,.int .i64 a1,.int .i64 c0,.int .i64 c1]
  have Bh:=cas Af (w9.heap.size) [.int .i64 p0,.int .i64 p1,.int .i64 p2,.int .i64 p3]
  simp only[CAf,Nat.reduceAdd,and_true]at Ba Bb Bh
  clear Af
  go_wp2_with fail
  clear A0 A2 Bd A3 A8 E9 A9 A6 Aa
  skip
  refine wp_cut2 (fun B0 B1 a=>(((((a.put (some 106) (.pointer (some ⟨w.heap.size+1+1+1+1,0,none⟩))).put (some 107) (.agg #[.int .i64 a0,.int .i64 a1])).put (some 108) (.pointer (some ⟨w.heap.size+1+1+1+1,2,none⟩))).put (some 109) (.agg #[.int .i64 c0,.int .i64 c1])).put (some 17) (.pointer (some ⟨B0,0,none⟩))).put (some 18) (.pointer (some ⟨B1,0,none⟩))) 17 18 #[.int .i64 a0,.int .i64 a1] #[.int .i64 c0,.int .i64 c1] ?_ ?_
  ·go_region
   all_goals
    refine⟨rfl,fun b0 b1 h0 h1 => ?_⟩
    subst h0;subst h1
    simp only[blockOf]
    go_simp
    first|exact⟨new_fst _ _ _ _ _,new_snd _ _ _ _ _⟩|exact⟨new_snd _ _ _ _ _,new_fst _ _ _ _ _⟩
  intro D0 D1 w11 hN hM B9
  obtain⟨Ay,Aj,Fe,G6,G8⟩:=hN
  obtain⟨_,Ak,Ff,G7,G9⟩:=hM
  (try simp at Aj Ak)
  have Ei:¬D1=D0:=Ne.symm B9
  have D8:=Ay.size
  (try simp at D8)
  have Ej:=bl5 Ay (w.heap.size+1+1)
  have Ex:=bl5 Ay (w9.heap.size)
  have Eg:¬D0=w.heap.size+1+1:=by first|omega|(simp at Aj;omega)
  have Ee:¬w.heap.size+1+1=D0:=by first|omega|(simp at Aj;omega)
  have Eu:¬D0=w9.heap.size:=by first|omega|(simp at Aj;omega)
  have Es:¬w9.heap.size=D0:=by first|omega|(simp at Aj;omega)
  have Eh:¬D1=w.heap.size+1+1:=by first|omega|(simp at Ak;omega)
  have Ef:¬w.heap.size+1+1=D1:=by first|omega|(simp at Ak;omega)
  have Ev:¬D1=w9.heap.size:=by first|omega|(simp at Ak;omega)
  have Et:¬w9.heap.size=D1:=by first|omega|(simp at Ak;omega)
  have W1_0:IntKind.i64.wrap (a0-c1)=(a0-c1):=IntWalk.i64_in _ ⟨by omega,by omega⟩
  have W1_1:IntKind.i64.wrap ((a0-c1)*1048576)=((a0-c1)*1048576):=IntWalk.i64_in _ ⟨by omega,by omega⟩
  have W1_2:IntKind.i64.wrap (a0+c1)=(a0+c1):=IntWalk.i64_in _ ⟨by omega,by omega⟩
  have W1_3:IntKind.i64.wrap (a1-c0)=(a1-c0):=IntWalk.i64_in _ ⟨by omega,by omega⟩
  have W1_4:IntKind.i64.wrap ((a1-c0)*1048576)=((a1-c0)*1048576):=IntWalk.i64_in _ ⟨by omega,by omega⟩
  have W1_5:IntKind.i64.wrap (a1+c0)=(a1+c0):=IntWalk.i64_in _ ⟨by omega,by omega⟩
  go_wp2_with fail
  refine calm_new 26 #[.int .i64 0,.int .i64 0,.int .i64 0,.int .i64 0,.int .i64 0,.int .i64 0] 146 _ rfl (by kernel_rfl) (by kernel_rfl) (fun a w=>by kernel_rfl) fun hG => ?_
  have Be:=hG (w.heap.size+1+1) lto
  have Ga:=hG (w9.heap.size) lto
  have Fc:=hG (D0) lto
  have Fd:=hG (D1) lto
  have Fb:=hG (w11.heap.size) lto
  clear hG
  simp only[List.take_succ_cons,List.take_zero,List.drop_succ_cons,List.drop_zero]
  repeat (refine wpCalm_step (fun K hK => ?_);go_simp;first|(refine hK _ ?_;clear hK K)|(apply Exists.intro;refine⟨fun _ => ?_,hK _ ?_⟩;(first|(go_at_call 132;with_reducible exact cal_same FF.out)|(go_at_call 133;with_reducible exact cal_same FC.out));clear hK K))
  refine wpCalm_nil ?_
  intro B1 w12 hN
  obtain⟨B8,Ai,Gm,Gq,Gr⟩:=hN
  (try simp at Ai)
  clear Be Ga Fc Fd Fb
  have Fg:=B8.size
  (try simp at Fg)
  have G3:=bl5 B8 (w.heap.size+1+1)
  have Ge:=bl5 B8 (w9.heap.size)
  have G4:=bl5 B8 (D0)
  have G5:=bl5 B8 (D1)
  have G2:=bl5 B8 (w11.heap.size)
  have Fz:¬B1=w.heap.size+1+1:=by first|omega|(simp at Ai;omega)
  have Fv:¬w.heap.size+1+1=B1:=by first|omega|(simp at Ai;omega)
  have Gc:¬B1=w9.heap.size:=by first|omega|(simp at Ai;omega)
  have Gb:¬w9.heap.size=B1:=by first|omega|(simp at Ai;omega)
  have G0:¬B1=D0:=by first|omega|(simp at Ai;omega)
  have Fw:¬D0=B1:=by first|omega|(simp at Ai;omega)
  have G1:¬B1=D1:=by first|omega|(simp at Ai;omega)
  have Fx:¬D1=B1:=by first|omega|(simp at Ai;omega)
  have Fy:¬B1=w11.heap.size:=by first|omega|(simp at Ai;omega)
  have Fu:¬w11.heap.size=B1:=by first|omega|(simp at Ai;omega)
  go_wp2_with fail
  refine wp_loop_rounds 3 ?_
  rw[rounds_succ]
  obtain⟨ii0,hi0,hi1,hi2,hi3⟩:=int_row
  repeat (first|(with_reducible refine wp_markr 33 ?_)|go_values|go_skip|go_guarded|go_step|go_upon|(simp only[];go_simp))
  refine wp_named (fun w13 A4 => ?_)
  have D9:=congrArg (fun w=>w.heap.size) A4
  (try simp at D9)
  replace D9:=Nat.le_of_eq D9.symm
  have Gg:Below w.heap.size w w13:=(by rw[A4];exact blw)
  have Ab:w.heap.size+1+1<w13.heap.size:=(by omega)
  have Fo:w.heap.size+1+1<w13.heap.size+1:=(by omega)
  have Fi:w.heap.size+1+1<w13.heap.size+1+1:=(by omega)
  have Df:w13.cell? ⟨w.heap.size+1+1,0,none⟩=some (Value.int .i64 0):=(by rw[A4];go_simp)
  have Dj:w13.cell? ⟨w.heap.size+1+1,1,none⟩=some (Value.int .i64 0):=(by rw[A4];go_simp)
  have Dn:w13.cell? ⟨w.heap.size+1+1,2,none⟩=some (Value.int .i64 0):=(by rw[A4];go_simp)
  have Dr:w13.cell? ⟨w.heap.size+1+1,3,none⟩=some (Value.int .i64 0):=(by rw[A4];go_simp)
  have Dv:w13.cell? ⟨w.heap.size+1+1,4,none⟩=some (Value.int .i64 0):=(by rw[A4];go_simp)
  have Dz:w13.cell? ⟨w.heap.size+1+1,5,none⟩=some (Value.int .i64 0):=(by rw[A4];go_simp)
  have E4:∀o,w13.frozen? ⟨w.heap.size+1+1,o,none⟩=false:=(fun o=>by rw[A4];go_simp)
  have Ac:B1<w13.heap.size:=(by omega)
  have Fp:B1<w13.heap.size+1:=(by omega)
  have Fj:B1<w13.heap.size+1+1:=(by omega)
  have Dg:w13.cell? ⟨B1,0,none⟩=some (Value.int .i64 n0):=(by rw[A4];go_simp)
  have Dk:w13.cell? ⟨B1,1,none⟩=some (Value.int .i64 n1):=(by rw[A4];go_simp)
  have Do:w13.cell? ⟨B1,2,none⟩=some (Value.int .i64 0):=(by rw[A4];go_simp)
  have Ds:w13.cell? ⟨B1,3,none⟩=some (Value.int .i64 0):=(by rw[A4];go_simp)
  have Dw:w13.cell? ⟨B1,4,none⟩=some (Value.int .i64 0):=(by rw[A4];go_simp)
  have E0:w13.cell? ⟨B1,5,none⟩=some (Value.int .i64 0):=(by rw[A4];go_simp)
  have E5:∀o,w13.frozen? ⟨B1,o,none⟩=false:=(fun o=>by rw[A4];go_simp)
  have Al:w11.heap.size<w13.heap.size:=(by omega)
  have Fn:w11.heap.size<w13.heap.size+1:=(by omega)
  have Fh:w11.heap.size<w13.heap.size+1+1:=(by omega)
  have Bs:w13.cell? ⟨w11.heap.size,0,none⟩=some (Value.int .i64 ((a0+c0))):=(by rw[A4];go_simp)
  have Bu:w13.cell? ⟨w11.heap.size,1,none⟩=some (Value.int .i64 ((a1+c1))):=(by rw[A4];go_simp)
  have E3:∀o,w13.frozen? ⟨w11.heap.size,o,none⟩=false:=(fun o=>by rw[A4];go_simp)
  have Ek:=cas A4 (w12.heap.size) [.int .i64 p0,.int .i64 p1]
  simp only[CAf,Nat.reduceAdd,and_true]at Ek
  clear A4
  have R0:=Rows2.nil (w:=w13)
  go_wp2_with fail
  refine wp_loop_rounds 3 ?_
  rw[rounds_succ]
  go_wp2_with fail
  refine wp_loop_rounds 3 ?_
  rw[rounds_succ]
  go_wp2_with fail
  refine(ffloor_any (-2*p0*1048576) (a0+c0) _ (by omega) (by omega) (by omega) (by omega)).mono ?_
  rintro e w' ⟨rfl,hw'⟩
  rw[hw']
  clear hw' w'
  go_wp2_with (at_builtin;refine wpList_mark ?_)
  refine wpList_append_own_at _ rfl _ _ 51 rfl w13.heap.size 3 ii0 _ 1 8 Tryz.underlying51 hi0 hi1 hi2 hi3 rfl (by decide) (.slice none 0 0) 0 [] rfl (R0.low.alloc _) ⟨_,0,none⟩ 1 1 [.int .i64 (-2*p0*1048576/(a0+c0))] rfl rfl (cell_one_new _ _ _) (one_cell _) (by decide) (by decide) (by have:=R0.below.size;first|omega|(simp;done)|(simp;omega)) ?_
  intro L14 w14 ho hg _ hk
  have R0a:Rows2 w13 L14 (.slice none 0 0) 1 0 [.int .i64 (-2*p0*1048576/(a0+c0))] [] w14:=R0.addLow ho hg hk
  clear ho hg hk R0
  go_wp2_with fail
  refine(fceil_any (-2*p0*1048576) (a0+c0) _ (by omega) (by omega) (by omega) (by omega)).mono ?_
  rintro e w' ⟨rfl,hw'⟩
  rw[hw']
  clear hw' w'
  go_wp2_with (at_builtin;refine wpList_mark ?_)
  refine wpList_append_own_at _ rfl _ _ 51 rfl w13.heap.size 3 ii0 _ 1 8 Tryz.underlying51 hi0 hi1 hi2 hi3 rfl (by decide) (.slice none 0 0) 0 [] rfl (R0a.high.alloc _) ⟨_,0,none⟩ 1 1 [.int .i64 (cdv (-2*p0*1048576) (a0+c0))] rfl rfl (cell_one_new _ _ _) (one_cell _) (by decide) (by decide) (by have:=R0a.below.size;first|omega|(simp;done)|(simp;omega)) ?_
  intro H15 w15 ho hg _ hk
  have R1:Rows2 w13 L14 H15 1 1 [.int .i64 (-2*p0*1048576/(a0+c0))] [.int .i64 (cdv (-2*p0*1048576) (a0+c0))] w15:=R0a.addHigh ho hg hk
  clear ho hg hk R0a
  go_wp2_with fail
  rw[rounds_succ]
  go_wp2_with fail
  refine(ffloor_any (-2*p0*1048576) (a1+c1) _ (by omega) (by omega) (by omega) (by omega)).mono ?_
  rintro e w' ⟨rfl,hw'⟩
  rw[hw']
  clear hw' w'
  go_wp2_with (at_builtin;refine wpList_mark ?_)
  refine wpList_append_own_at _ rfl _ _ 51 rfl w13.heap.size 3 ii0 _ 1 8 Tryz.underlying51 hi0 hi1 hi2 hi3 rfl (by decide) L14 1 [.int .i64 (-2*p0*1048576/(a0+c0))] rfl (R1.low.alloc _) ⟨_,0,none⟩ 1 1 [.int .i64 (-2*p0*1048576/(a1+c1))] rfl rfl (cell_one_new _ _ _) (one_cell _) (by decide) (by decide) (by have:=R1.below.size;first|omega|(simp;done)|(simp;omega)) ?_
  intro L16 w16 ho hg _ hk
  have R1a:Rows2 w13 L16 H15 2 1 [.int .i64 (-2*p0*1048576/(a0+c0)),.int .i64 (-2*p0*1048576/(a1+c1))] [.int .i64 (cdv (-2*p0*1048576) (a0+c0))] w16:=R1.addLow ho hg hk
  clear ho hg hk R1
  go_wp2_with fail
  refine(fceil_any (-2*p0*1048576) (a1+c1) _ (by omega) (by omega) (by omega) (by omega)).mono ?_
  rintro e w' ⟨rfl,hw'⟩
  rw[hw']
  clear hw' w'
  go_wp2_with (at_builtin;refine wpList_mark ?_)
  refine wpList_append_own_at _ rfl _ _ 51 rfl w13.heap.size 3 ii0 _ 1 8 Tryz.underlying51 hi0 hi1 hi2 hi3 rfl (by decide) H15 1 [.int .i64 (cdv (-2*p0*1048576) (a0+c0))] rfl (R1a.high.alloc _) ⟨_,0,none⟩ 1 1 [.int .i64 (cdv (-2*p0*1048576) (a1+c1))] rfl rfl (cell_one_new _ _ _) (one_cell _) (by decide) (by decide) (by have:=R1a.below.size;first|omega|(simp;done)|(simp;omega)) ?_
  intro H17 w17 ho hg _ hk
  have R2:Rows2 w13 L16 H17 2 2 [.int .i64 (-2*p0*1048576/(a0+c0)),.int .i64 (-2*p0*1048576/(a1+c1))] [.int .i64 (cdv (-2*p0*1048576) (a0+c0)),.int .i64 (cdv (-2*p0*1048576) (a1+c1))] w17:=R1a.addHigh ho hg hk
  clear ho hg hk R1a
  go_wp2_with fail
  rw[rounds_succ]
  go_wp2_with fail
  go_wp2_with fail
  rw[rounds_succ]
  have k0:=(R2.below.cell (p:=⟨w11.heap.size,0,none⟩) Al).trans Bs
  have k1:=(R2.below.cell (p:=⟨w11.heap.size,1,none⟩) Al).trans Bu
  go_wp2_with fail
  refine wp_loop_rounds 3 ?_
  rw[rounds_succ]
  go_wp2_with fail
  refine(ffloor_any (-2*p1*1048576) (a0+c0) _ (by omega) (by omega) (by omega) (by omega)).mono ?_
  rintro e w' ⟨rfl,hw'⟩
  rw[hw']
  clear hw' w'
  go_wp2_with (at_builtin;refine wpList_mark ?_)
  refine wpList_append_own_at _ rfl _ _ 51 rfl w13.heap.size 3 ii0 _ 1 8 Tryz.underlying51 hi0 hi1 hi2 hi3 rfl (by decide) L16 2 [.int .i64 (-2*p0*1048576/(a0+c0)),.int .i64 (-2*p0*1048576/(a1+c1))] rfl (R2.low.alloc _) ⟨_,0,none⟩ 1 1 [.int .i64 (-2*p1*1048576/(a0+c0))] rfl rfl (cell_one_new _ _ _) (one_cell _) (by decide) (by decide) (by have:=R2.below.size;first|omega|(simp;done)|(simp;omega)) ?_
  intro L18 w18 ho hg _ hk
  have R2a:Rows2 w13 L18 H17 3 2 [.int .i64 (-2*p0*1048576/(a0+c0)),.int .i64 (-2*p0*1048576/(a1+c1)),.int .i64 (-2*p1*1048576/(a0+c0))] [.int .i64 (cdv (-2*p0*1048576) (a0+c0)),.int .i64 (cdv (-2*p0*1048576) (a1+c1))] w18:=R2.addLow ho hg hk
  clear ho hg hk R2
  go_wp2_with fail
  refine(fceil_any (-2*p1*1048576) (a0+c0) _ (by omega) (by omega) (by omega) (by omega)).mono ?_
  rintro e w' ⟨rfl,hw'⟩
  rw[hw']
  clear hw' w'
  go_wp2_with (at_builtin;refine wpList_mark ?_)
  refine wpList_append_own_at _ rfl _ _ 51 rfl w13.heap.size 3 ii0 _ 1 8 Tryz.underlying51 hi0 hi1 hi2 hi3 rfl (by decide) H17 2 [.int .i64 (cdv (-2*p0*1048576) (a0+c0)),.int .i64 (cdv (-2*p0*1048576) (a1+c1))] rfl (R2a.high.alloc _) ⟨_,0,none⟩ 1 1 [.int .i64 (cdv (-2*p1*1048576) (a0+c0))] rfl rfl (cell_one_new _ _ _) (one_cell _) (by decide) (by decide) (by have:=R2a.below.size;first|omega|(simp;done)|(simp;omega)) ?_
  intro H19 w19 ho hg _ hk
  have R3:Rows2 w13 L18 H19 3 3 [.int .i64 (-2*p0*1048576/(a0+c0)),.int .i64 (-2*p0*1048576/(a1+c1)),.int .i64 (-2*p1*1048576/(a0+c0))] [.int .i64 (cdv (-2*p0*1048576) (a0+c0)),.int .i64 (cdv (-2*p0*1048576) (a1+c1)),.int .i64 (cdv (-2*p1*1048576) (a0+c0))] w19:=R2a.addHigh ho hg hk
  clear ho hg hk R2a
  go_wp2_with fail
  rw[rounds_succ]
  go_wp2_with fail
  refine(ffloor_any (-2*p1*1048576) (a1+c1) _ (by omega) (by omega) (by omega) (by omega)).mono ?_
  rintro e w' ⟨rfl,hw'⟩
  rw[hw']
  clear hw' w'
  go_wp2_with (at_builtin;refine wpList_mark ?_)
  refine wpList_append_own_at _ rfl _ _ 51 rfl w13.heap.size 3 ii0 _ 1 8 Tryz.underlying51 hi0 hi1 hi2 hi3 rfl (by decide) L18 3 [.int .i64 (-2*p0*1048576/(a0+c0)),.int .i64 (-2*p0*1048576/(a1+c1)),.int .i64 (-2*p1*1048576/(a0+c0))] rfl (R3.low.alloc _) ⟨_,0,none⟩ 1 1 [.int .i64 (-2*p1*1048576/(a1+c1))] rfl rfl (cell_one_new _ _ _) (one_cell _) (by decide) (by decide) (by have:=R3.below.size;first|omega|(simp;done)|(simp;omega)) ?_
  intro L20 w20 ho hg _ hk
  have R3a:Rows2 w13 L20 H19 4 3 [.int .i64 (-2*p0*1048576/(a0+c0)),.int .i64 (-2*p0*1048576/(a1+c1)),.int .i64 (-2*p1*1048576/(a0+c0)),.int .i64 (-2*p1*1048576/(a1+c1))] [.int .i64 (cdv (-2*p0*1048576) (a0+c0)),.int .i64 (cdv (-2*p0*1048576) (a1+c1)),.int .i64 (cdv (-2*p1*1048576) (a0+c0))] w20:=R3.addLow ho hg hk
  clear ho hg hk R3
  go_wp2_with fail
  refine(fceil_any (-2*p1*1048576) (a1+c1) _ (by omega) (by omega) (by omega) (by omega)).mono ?_
  rintro e w' ⟨rfl,hw'⟩
  rw[hw']
  clear hw' w'
  go_wp2_with (at_builtin;refine wpList_mark ?_)
  refine wpList_append_own_at _ rfl _ _ 51 rfl w13.heap.size 3 ii0 _ 1 8 Tryz.underlying51 hi0 hi1 hi2 hi3 rfl (by decide) H19 3 [.int .i64 (cdv (-2*p0*1048576) (a0+c0)),.int .i64 (cdv (-2*p0*1048576) (a1+c1)),.int .i64 (cdv (-2*p1*1048576) (a0+c0))] rfl (R3a.high.alloc _) ⟨_,0,none⟩ 1 1 [.int .i64 (cdv (-2*p1*1048576) (a1+c1))] rfl rfl (cell_one_new _ _ _) (one_cell _) (by decide) (by decide) (by have:=R3a.below.size;first|omega|(simp;done)|(simp;omega)) ?_
  intro H21 w21 ho hg _ hk
  have R4:Rows2 w13 L20 H21 4 4 [.int .i64 (-2*p0*1048576/(a0+c0)),.int .i64 (-2*p0*1048576/(a1+c1)),.int .i64 (-2*p1*1048576/(a0+c0)),.int .i64 (-2*p1*1048576/(a1+c1))] [.int .i64 (cdv (-2*p0*1048576) (a0+c0)),.int .i64 (cdv (-2*p0*1048576) (a1+c1)),.int .i64 (cdv (-2*p1*1048576) (a0+c0)),.int .i64 (cdv (-2*p1*1048576) (a1+c1))] w21:=R3a.addHigh ho hg hk
  clear ho hg hk R3a
  go_wp2_with fail
  rw[rounds_succ]
  go_wp2_with fail
  rw[rounds_succ]
  go_wp2_with fail
  have Ce:=(R4.below.cell (p:=⟨w.heap.size+1+1,0,none⟩) Ab).trans Df
  have Ck:=(R4.below.cell (p:=⟨w.heap.size+1+1,1,none⟩) Ab).trans Dj
  have Cp:=(R4.below.cell (p:=⟨w.heap.size+1+1,2,none⟩) Ab).trans Dn
  have Ct:=(R4.below.cell (p:=⟨w.heap.size+1+1,3,none⟩) Ab).trans Dr
  have Cx:=(R4.below.cell (p:=⟨w.heap.size+1+1,4,none⟩) Ab).trans Dv
  have D3:=(R4.below.cell (p:=⟨w.heap.size+1+1,5,none⟩) Ab).trans Dz
  have cf_w13_wp2:=fun o=>(R4.below.frozen (p:=⟨w.heap.size+1+1,o,none⟩) Ab).trans (E4 o)
  have Cf:=(R4.below.cell (p:=⟨B1,0,none⟩) Ac).trans Dg
  have Cl:=(R4.below.cell (p:=⟨B1,1,none⟩) Ac).trans Dk
  have Cq:=(R4.below.cell (p:=⟨B1,2,none⟩) Ac).trans Do
  have Cu:=(R4.below.cell (p:=⟨B1,3,none⟩) Ac).trans Ds
  have Cy:=(R4.below.cell (p:=⟨B1,4,none⟩) Ac).trans Dw
  have D4:=(R4.below.cell (p:=⟨B1,5,none⟩) Ac).trans E0
  have cf_w13_xB1:=fun o=>(R4.below.frozen (p:=⟨B1,o,none⟩) Ac).trans (E5 o)
  have Cd:=(R4.below.cell (p:=⟨w11.heap.size,0,none⟩) Al).trans Bs
  have Cj:=(R4.below.cell (p:=⟨w11.heap.size,1,none⟩) Al).trans Bu
  have cf_w13_w11:=fun o=>(R4.below.frozen (p:=⟨w11.heap.size,o,none⟩) Al).trans (E3 o)
  have Gn:=R4.below.size
  have Gh:=R4.below
  obtain⟨gl,cl,rfl,_,_,hcl⟩:=own_cells R4.low (by decide)
  obtain⟨gh,ch,rfl,_,_,hch⟩:=own_cells R4.high (by decide)
  clear R4 k0 k1
  refine(smin_to gl cl _ _ _ _ x0 _ (by rw[← hx0.out];unfold loC;rfl) hcl).mono ?_
  rintro e w' ⟨rfl,hw'⟩
  rw[hw']
  clear hw' w'
  go_wp2_with fail
  refine(smax_to gh ch _ _ _ _ x1 _ (by rw[← hx1.out];unfold hiC;rfl) hch).mono ?_
  rintro e w' ⟨rfl,hw'⟩
  rw[hw']
  clear hw' w' hcl hch
  repeat (first|(with_reducible refine wp_markr 43 ?_)|go_values|go_skip|go_guarded|go_step|go_upon|(simp only[];go_simp))
  refine wp_named (fun w22 B6 => ?_)
  have Da:=congrArg (fun w=>w.heap.size) B6
  (try simp at Da)
  replace Da:=Nat.le_of_eq Da.symm
  have Gi:Below w.heap.size w w22:=(by rw[B6];exact blw)
  have Em:=cas B6 (w.heap.size+1+1) [.int .i64 0,.int .i64 0,.int .i64 0,.int .i64 0,.int .i64 0,.int .i64 0]
  have En:=cas B6 (B1) [.int .i64 n0,.int .i64 n1,.int .i64 x0,.int .i64 x1,.int .i64 0,.int .i64 0]
  have El:=cas B6 (w11.heap.size) [.int .i64 ((a0+c0)),.int .i64 ((a1+c1))]
  simp only[CAf,Nat.reduceAdd,and_true]at Em En El
  clear B6
  clear Ce Cf Ck Cl Cp Cq Ct Cu Cx Cy D3 D4 Cd Cj cf_w13_wp2 cf_w13_xB1 cf_w13_w11
  go_wp2_with fail
  rw[rounds_succ]
  repeat (first|(with_reducible refine wp_markr 33 ?_)|go_values|go_skip|go_guarded|go_step|go_upon|(simp only[];go_simp))
  refine wp_named (fun w23 A5 => ?_)
  have Db:=congrArg (fun w=>w.heap.size) A5
  (try simp at Db)
  replace Db:=Nat.le_of_eq Db.symm
  have Gj:Below w.heap.size w w23:=(by rw[A5];exact blw)
  have Ad:w.heap.size+1+1<w23.heap.size:=(by omega)
  have Fr:w.heap.size+1+1<w23.heap.size+1:=(by omega)
  have Fl:w.heap.size+1+1<w23.heap.size+1+1:=(by omega)
  have Dh:w23.cell? ⟨w.heap.size+1+1,0,none⟩=some (Value.int .i64 0):=(by rw[A5];go_simp)
  have Dl:w23.cell? ⟨w.heap.size+1+1,1,none⟩=some (Value.int .i64 0):=(by rw[A5];go_simp)
  have Dp:w23.cell? ⟨w.heap.size+1+1,2,none⟩=some (Value.int .i64 0):=(by rw[A5];go_simp)
  have Dt:w23.cell? ⟨w.heap.size+1+1,3,none⟩=some (Value.int .i64 0):=(by rw[A5];go_simp)
  have Dx:w23.cell? ⟨w.heap.size+1+1,4,none⟩=some (Value.int .i64 0):=(by rw[A5];go_simp)
  have E1:w23.cell? ⟨w.heap.size+1+1,5,none⟩=some (Value.int .i64 0):=(by rw[A5];go_simp)
  have E7:∀o,w23.frozen? ⟨w.heap.size+1+1,o,none⟩=false:=(fun o=>by rw[A5];go_simp)
  have Ae:B1<w23.heap.size:=(by omega)
  have Fs:B1<w23.heap.size+1:=(by omega)
  have Fm:B1<w23.heap.size+1+1:=(by omega)
  have Di:w23.cell? ⟨B1,0,none⟩=some (Value.int .i64 n0):=(by rw[A5];go_simp)
  have Dm:w23.cell? ⟨B1,1,none⟩=some (Value.int .i64 n1):=(by rw[A5];go_simp)
  have Dq:w23.cell? ⟨B1,2,none⟩=some (Value.int .i64 x0):=(by rw[A5];go_simp)
  have Du:w23.cell? ⟨B1,3,none⟩=some (Value.int .i64 x1):=(by rw[A5];go_simp)
  have Dy:w23.cell? ⟨B1,4,none⟩=some (Value.int .i64 0):=(by rw[A5];go_simp)
  have E2:w23.cell? ⟨B1,5,none⟩=some (Value.int .i64 0):=(by rw[A5];go_simp)
  have E8:∀o,w23.frozen? ⟨B1,o,none⟩=false:=(fun o=>by rw[A5];go_simp)
  have Am:w11.heap.size<w23.heap.size:=(by omega)
  have Fq:w11.heap.size<w23.heap.size+1:=(by omega)
  have Fk:w11.heap.size<w23.heap.size+1+1:=(by omega)
  have Bt:w23.cell? ⟨w11.heap.size,0,none⟩=some (Value.int .i64 ((a0+c0))):=(by rw[A5];go_simp)
  have Bv:w23.cell? ⟨w11.heap.size,1,none⟩=some (Value.int .i64 ((a1+c1))):=(by rw[A5];go_simp)
  have E6:∀o,w23.frozen? ⟨w11.heap.size,o,none⟩=false:=(fun o=>by rw[A5];go_simp)
  have Eo:=cas A5 (w22.heap.size) [.int .i64 p2,.int .i64 p3]
  simp only[CAf,Nat.reduceAdd,and_true]at Eo
  clear A5
  have R0:=Rows2.nil (w:=w23)
  go_wp2_with fail
  refine wp_loop_rounds 3 ?_
  rw[rounds_succ]
  go_wp2_with fail
  refine wp_loop_rounds 3 ?_
  rw[rounds_succ]
  go_wp2_with fail
  refine(ffloor_any (-2*p2*1048576) (a0+c0) _ (by omega) (by omega) (by omega) (by omega)).mono ?_
  rintro e w' ⟨rfl,hw'⟩
  rw[hw']
  clear hw' w'
  go_wp2_with (at_builtin;refine wpList_mark ?_)
  refine wpList_append_own_at _ rfl _ _ 51 rfl w23.heap.size 3 ii0 _ 1 8 Tryz.underlying51 hi0 hi1 hi2 hi3 rfl (by decide) (.slice none 0 0) 0 [] rfl (R0.low.alloc _) ⟨_,0,none⟩ 1 1 [.int .i64 (-2*p2*1048576/(a0+c0))] rfl rfl (cell_one_new _ _ _) (one_cell _) (by decide) (by decide) (by have:=R0.below.size;first|omega|(simp;done)|(simp;omega)) ?_
  intro L24 w24 ho hg _ hk
  have R0a:Rows2 w23 L24 (.slice none 0 0) 1 0 [.int .i64 (-2*p2*1048576/(a0+c0))] [] w24:=R0.addLow ho hg hk
  clear ho hg hk R0
  go_wp2_with fail
  refine(fceil_any (-2*p2*1048576) (a0+c0) _ (by omega) (by omega) (by omega) (by omega)).mono ?_
  rintro e w' ⟨rfl,hw'⟩
  rw[hw']
  clear hw' w'
  go_wp2_with (at_builtin;refine wpList_mark ?_)
  refine wpList_append_own_at _ rfl _ _ 51 rfl w23.heap.size 3 ii0 _ 1 8 Tryz.underlying51 hi0 hi1 hi2 hi3 rfl (by decide) (.slice none 0 0) 0 [] rfl (R0a.high.alloc _) ⟨_,0,none⟩ 1 1 [.int .i64 (cdv (-2*p2*1048576) (a0+c0))] rfl rfl (cell_one_new _ _ _) (one_cell _) (by decide) (by decide) (by have:=R0a.below.size;first|omega|(simp;done)|(simp;omega)) ?_
  intro H25 w25 ho hg _ hk
  have R1:Rows2 w23 L24 H25 1 1 [.int .i64 (-2*p2*1048576/(a0+c0))] [.int .i64 (cdv (-2*p2*1048576) (a0+c0))] w25:=R0a.addHigh ho hg hk
  clear ho hg hk R0a
  go_wp2_with fail
  rw[rounds_succ]
  go_wp2_with fail
  refine(ffloor_any (-2*p2*1048576) (a1+c1) _ (by omega) (by omega) (by omega) (by omega)).mono ?_
  rintro e w' ⟨rfl,hw'⟩
  rw[hw']
  clear hw' w'
  go_wp2_with (at_builtin;refine wpList_mark ?_)
  refine wpList_append_own_at _ rfl _ _ 51 rfl w23.heap.size 3 ii0 _ 1 8 Tryz.underlying51 hi0 hi1 hi2 hi3 rfl (by decide) L24 1 [.int .i64 (-2*p2*1048576/(a0+c0))] rfl (R1.low.alloc _) ⟨_,0,none⟩ 1 1 [.int .i64 (-2*p2*1048576/(a1+c1))] rfl rfl (cell_one_new _ _ _) (one_cell _) (by decide) (by decide) (by have:=R1.below.size;first|omega|(simp;done)|(simp;omega)) ?_
  intro L26 w26 ho hg _ hk
  have R1a:Rows2 w23 L26 H25 2 1 [.int .i64 (-2*p2*1048576/(a0+c0)),.int .i64 (-2*p2*1048576/(a1+c1))] [.int .i64 (cdv (-2*p2*1048576) (a0+c0))] w26:=R1.addLow ho hg hk
  clear ho hg hk R1
  go_wp2_with fail
  refine(fceil_any (-2*p2*1048576) (a1+c1) _ (by omega) (by omega) (by omega) (by omega)).mono ?_
  rintro e w' ⟨rfl,hw'⟩
  rw[hw']
  clear hw' w'
  go_wp2_with (at_builtin;refine wpList_mark ?_)
  refine wpList_append_own_at _ rfl _ _ 51 rfl w23.heap.size 3 ii0 _ 1 8 Tryz.underlying51 hi0 hi1 hi2 hi3 rfl (by decide) H25 1 [.int .i64 (cdv (-2*p2*1048576) (a0+c0))] rfl (R1a.high.alloc _) ⟨_,0,none⟩ 1 1 [.int .i64 (cdv (-2*p2*1048576) (a1+c1))] rfl rfl (cell_one_new _ _ _) (one_cell _) (by decide) (by decide) (by have:=R1a.below.size;first|omega|(simp;done)|(simp;omega)) ?_
  intro H27 w27 ho hg _ hk
  have R2:Rows2 w23 L26 H27 2 2 [.int .i64 (-2*p2*1048576/(a0+c0)),.int .i64 (-2*p2*1048576/(a1+c1))] [.int .i64 (cdv (-2*p2*1048576) (a0+c0)),.int .i64 (cdv (-2*p2*1048576) (a1+c1))] w27:=R1a.addHigh ho hg hk
  clear ho hg hk R1a
  go_wp2_with fail
  rw[rounds_succ]
  go_wp2_with fail
  go_wp2_with fail
  rw[rounds_succ]
  have k0:=(R2.below.cell (p:=⟨w11.heap.size,0,none⟩) Am).trans Bt
  have k1:=(R2.below.cell (p:=⟨w11.heap.size,1,none⟩) Am).trans Bv
  go_wp2_with fail
  refine wp_loop_rounds 3 ?_
  rw[rounds_succ]
  go_wp2_with fail
  refine(ffloor_any (-2*p3*1048576) (a0+c0) _ (by omega) (by omega) (by omega) (by omega)).mono ?_
  rintro e w' ⟨rfl,hw'⟩
  rw[hw']
  clear hw' w'
  go_wp2_with (at_builtin;refine wpList_mark ?_)
  refine wpList_append_own_at _ rfl _ _ 51 rfl w23.heap.size 3 ii0 _ 1 8 Tryz.underlying51 hi0 hi1 hi2 hi3 rfl (by decide) L26 2 [.int .i64 (-2*p2*1048576/(a0+c0)),.int .i64 (-2*p2*1048576/(a1+c1))] rfl (R2.low.alloc _) ⟨_,0,none⟩ 1 1 [.int .i64 (-2*p3*1048576/(a0+c0))] rfl rfl (cell_one_new _ _ _) (one_cell _) (by decide) (by decide) (by have:=R2.below.size;first|omega|(simp;done)|(simp;omega)) ?_
  intro L28 w28 ho hg _ hk
  have R2a:Rows2 w23 L28 H27 3 2 [.int .i64 (-2*p2*1048576/(a0+c0)),.int .i64 (-2*p2*1048576/(a1+c1)),.int .i64 (-2*p3*1048576/(a0+c0))] [.int .i64 (cdv (-2*p2*1048576) (a0+c0)),.int .i64 (cdv (-2*p2*1048576) (a1+c1))] w28:=R2.addLow ho hg hk
  clear ho hg hk R2
  go_wp2_with fail
  refine(fceil_any (-2*p3*1048576) (a0+c0) _ (by omega) (by omega) (by omega) (by omega)).mono ?_
  rintro e w' ⟨rfl,hw'⟩
  rw[hw']
  clear hw' w'
  go_wp2_with (at_builtin;refine wpList_mark ?_)
  refine wpList_append_own_at _ rfl _ _ 51 rfl w23.heap.size 3 ii0 _ 1 8 Tryz.underlying51 hi0 hi1 hi2 hi3 rfl (by decide) H27 2 [.int .i64 (cdv (-2*p2*1048576) (a0+c0)),.int .i64 (cdv (-2*p2*1048576) (a1+c1))] rfl (R2a.high.alloc _) ⟨_,0,none⟩ 1 1 [.int .i64 (cdv (-2*p3*1048576) (a0+c0))] rfl rfl (cell_one_new _ _ _) (one_cell _) (by decide) (by decide) (by have:=R2a.below.size;first|omega|(simp;done)|(simp;omega)) ?_
  intro H29 w29 ho hg _ hk
  have R3:Rows2 w23 L28 H29 3 3 [.int .i64 (-2*p2*1048576/(a0+c0)),.int .i64 (-2*p2*1048576/(a1+c1)),.int .i64 (-2*p3*1048576/(a0+c0))] [.int .i64 (cdv (-2*p2*1048576) (a0+c0)),.int .i64 (cdv (-2*p2*1048576) (a1+c1)),.int .i64 (cdv (-2*p3*1048576) (a0+c0))] w29:=R2a.addHigh ho hg hk
  clear ho hg hk R2a
  go_wp2_with fail
  rw[rounds_succ]
  go_wp2_with fail
  refine(ffloor_any (-2*p3*1048576) (a1+c1) _ (by omega) (by omega) (by omega) (by omega)).mono ?_
  rintro e w' ⟨rfl,hw'⟩
  rw[hw']
  clear hw' w'
  go_wp2_with (at_builtin;refine wpList_mark ?_)
  refine wpList_append_own_at _ rfl _ _ 51 rfl w23.heap.size 3 ii0 _ 1 8 Tryz.underlying51 hi0 hi1 hi2 hi3 rfl (by decide) L28 3 [.int .i64 (-2*p2*1048576/(a0+c0)),.int .i64 (-2*p2*1048576/(a1+c1)),.int .i64 (-2*p3*1048576/(a0+c0))] rfl (R3.low.alloc _) ⟨_,0,none⟩ 1 1 [.int .i64 (-2*p3*1048576/(a1+c1))] rfl rfl (cell_one_new _ _ _) (one_cell _) (by decide) (by decide) (by have:=R3.below.size;first|omega|(simp;done)|(simp;omega)) ?_
  intro L30 w30 ho hg _ hk
  have R3a:Rows2 w23 L30 H29 4 3 [.int .i64 (-2*p2*1048576/(a0+c0)),.int .i64 (-2*p2*1048576/(a1+c1)),.int .i64 (-2*p3*1048576/(a0+c0)),.int .i64 (-2*p3*1048576/(a1+c1))] [.int .i64 (cdv (-2*p2*1048576) (a0+c0)),.int .i64 (cdv (-2*p2*1048576) (a1+c1)),.int .i64 (cdv (-2*p3*1048576) (a0+c0))] w30:=R3.addLow ho hg hk
  clear ho hg hk R3
  go_wp2_with fail
  refine(fceil_any (-2*p3*1048576) (a1+c1) _ (by omega) (by omega) (by omega) (by omega)).mono ?_
  rintro e w' ⟨rfl,hw'⟩
  rw[hw']
  clear hw' w'
  go_wp2_with (at_builtin;refine wpList_mark ?_)
  refine wpList_append_own_at _ rfl _ _ 51 rfl w23.heap.size 3 ii0 _ 1 8 Tryz.underlying51 hi0 hi1 hi2 hi3 rfl (by decide) H29 3 [.int .i64 (cdv (-2*p2*1048576) (a0+c0)),.int .i64 (cdv (-2*p2*1048576) (a1+c1)),.int .i64 (cdv (-2*p3*1048576) (a0+c0))] rfl (R3a.high.alloc _) ⟨_,0,none⟩ 1 1 [.int .i64 (cdv (-2*p3*1048576) (a1+c1))] rfl rfl (cell_one_new _ _ _) (one_cell _) (by decide) (by decide) (by have:=R3a.below.size;first|omega|(simp;done)|(simp;omega)) ?_
  intro H31 w31 ho hg _ hk
  have R4:Rows2 w23 L30 H31 4 4 [.int .i64 (-2*p2*1048576/(a0+c0)),.int .i64 (-2*p2*1048576/(a1+c1)),.int .i64 (-2*p3*1048576/(a0+c0)),.int .i64 (-2*p3*1048576/(a1+c1))] [.int .i64 (cdv (-2*p2*1048576) (a0+c0)),.int .i64 (cdv (-2*p2*1048576) (a1+c1)),.int .i64 (cdv (-2*p3*1048576) (a0+c0)),.int .i64 (cdv (-2*p3*1048576) (a1+c1))] w31:=R3a.addHigh ho hg hk
  clear ho hg hk R3a
  go_wp2_with fail
  rw[rounds_succ]
  go_wp2_with fail
  rw[rounds_succ]
  go_wp2_with fail
  have Ch:=(R4.below.cell (p:=⟨w.heap.size+1+1,0,none⟩) Ad).trans Dh
  have Cn:=(R4.below.cell (p:=⟨w.heap.size+1+1,1,none⟩) Ad).trans Dl
  have Cr:=(R4.below.cell (p:=⟨w.heap.size+1+1,2,none⟩) Ad).trans Dp
  have Cv:=(R4.below.cell (p:=⟨w.heap.size+1+1,3,none⟩) Ad).trans Dt
  have Cz:=(R4.below.cell (p:=⟨w.heap.size+1+1,4,none⟩) Ad).trans Dx
  have D5:=(R4.below.cell (p:=⟨w.heap.size+1+1,5,none⟩) Ad).trans E1
  have cf_w23_wp2:=fun o=>(R4.below.frozen (p:=⟨w.heap.size+1+1,o,none⟩) Ad).trans (E7 o)
  have Ci:=(R4.below.cell (p:=⟨B1,0,none⟩) Ae).trans Di
  have Co:=(R4.below.cell (p:=⟨B1,1,none⟩) Ae).trans Dm
  have Cs:=(R4.below.cell (p:=⟨B1,2,none⟩) Ae).trans Dq
  have Cw:=(R4.below.cell (p:=⟨B1,3,none⟩) Ae).trans Du
  have D2:=(R4.below.cell (p:=⟨B1,4,none⟩) Ae).trans Dy
  have D6:=(R4.below.cell (p:=⟨B1,5,none⟩) Ae).trans E2
  have cf_w23_xB1:=fun o=>(R4.below.frozen (p:=⟨B1,o,none⟩) Ae).trans (E8 o)
  have Cg:=(R4.below.cell (p:=⟨w11.heap.size,0,none⟩) Am).trans Bt
  have Cm:=(R4.below.cell (p:=⟨w11.heap.size,1,none⟩) Am).trans Bv
  have cf_w23_w11:=fun o=>(R4.below.frozen (p:=⟨w11.heap.size,o,none⟩) Am).trans (E6 o)
  have Gp:=R4.below.size
  have Gk:=R4.below
  obtain⟨gl,cl,rfl,_,_,hcl⟩:=own_cells R4.low (by decide)
  obtain⟨gh,ch,rfl,_,_,hch⟩:=own_cells R4.high (by decide)
  clear R4 k0 k1
  refine(smin_to gl cl _ _ _ _ y0 _ (by rw[← hy0.out];unfold loC;rfl) hcl).mono ?_
  rintro e w' ⟨rfl,hw'⟩
  rw[hw']
  clear hw' w'
  go_wp2_with fail
  refine(smax_to gh ch _ _ _ _ y1 _ (by rw[← hy1.out];unfold hiC;rfl) hch).mono ?_
  rintro e w' ⟨rfl,hw'⟩
  rw[hw']
  clear hw' w' hcl hch
  repeat (first|(with_reducible refine wp_markr 43 ?_)|go_values|go_skip|go_guarded|go_step|go_upon|(simp only[];go_simp))
  refine wp_named (fun w32 B7 => ?_)
  have Dc:=congrArg (fun w=>w.heap.size) B7
  (try simp at Dc)
  replace Dc:=Nat.le_of_eq Dc.symm
  have Gl:Below w.heap.size w w32:=(by rw[B7];exact blw)
  have Eq:=cas B7 (w.heap.size+1+1) [.int .i64 0,.int .i64 0,.int .i64 0,.int .i64 0,.int .i64 0,.int .i64 0]
  have Er:=cas B7 (B1) [.int .i64 n0,.int .i64 n1,.int .i64 x0,.int .i64 x1,.int .i64 y0,.int .i64 y1]
  have Ep:=cas B7 (w11.heap.size) [.int .i64 ((a0+c0)),.int .i64 ((a1+c1))]
  simp only[CAf,Nat.reduceAdd,and_true]at Eq Er Ep
  clear B7
  clear Ch Ci Cn Co Cr Cs Cv Cw Cz D2 D5 D6 Cg Cm cf_w23_wp2 cf_w23_xB1 cf_w23_w11
  go_wp2_with fail
  rw[rounds_succ]
  go_wp2_with fail
  refine(seencut_any n0 n1 x0 x1 y0 y1 _).mono ?_
  rintro e wz ⟨rfl,F8⟩
  have Gd:=F8.size
  (try simp at Gd)
  have Gf:=bl5 F8 (w.heap.size+1+1)
  repeat' (first|go_values|go_skip|go_guarded|go_step|go_upon|(simp only[];go_simp))
  refine bodyPost_ret (by simp[results,Tryz.results77,go_sem, *];first|done|rfl) rfl ?_
  exact⟨by rw[hn0.out,hn1.out,hx0.out,hx1.out,hy0.out,hy1.out],blw⟩
 exact key
end Go.Proofs.YtjbfaaolfonmaaaGreat
namespace Go.Proofs.YtjbfaaolfonmaaaGreat
open Go Go.Sort Go.RowKit
theorem conj_to (R:Res) (h:Fine R) (w:World):Calls Tryz.prog 129 #[.agg #[.complex .f64 (fl R.a) (fl R.b),.int .i64 R.c]] w fun E w' =>
  E = .returned (.tuple #[.agg #[.complex .f64 (fl (cj R).a) (fl (cj R).b),.int .i64 (cj R).c],.int .i64 0])∧Below w.heap.size w w':=by
 have C:=Conj_any R.a R.b R.c w h.f1 h.f2
 rw[show conjM R.a R.b R.c=cj R from by unfold cj;rfl,out_quad,cj_good h]at C
 exact C
theorem times_to (R S:Res) (hR:Fine R) (hS:Fine S) (w:World) :
  Calls Tryz.prog 130 #[.agg #[.complex .f64 (fl R.a) (fl R.b),.int .i64 R.c],.agg #[.complex .f64 (fl S.a) (fl S.b),.int .i64 S.c]] w fun E w' =>
   E = .returned (.tuple #[.agg #[.complex .f64 (fl (ti R S).a) (fl (ti R S).b),.int .i64 (ti R S).c],.int .i64 (ti R S).q])∧Below w.heap.size w w':=by
 have C:=Times_any R.a R.b R.c S.a S.b S.c w hR.f1 hR.f2 hS.f1 hS.f2
 rw[show timesM R.a R.b R.c S.a S.b S.c=ti R S from by unfold ti;rfl,out_quad]at C
 exact C
theorem energy_to (R:Res) (h:Fine R) (w:World):Calls Tryz.prog 128 #[.agg #[.complex .f64 (fl R.a) (fl R.b),.int .i64 R.c]] w fun E w' =>
  E = .returned (.tuple #[.agg #[.int .i64 (enRL R),.int .i64 (enRH R)],.int .i64 0])∧Below w.heap.size w w':=by
 unfold enRL enRH
 exact Energy_yes R.a R.b R.c w h.right
theorem askF_ok {wv ix si oi ol:Int}{ls:List Box}{pa:Option Addr}{cap:Nat} (hs:setQ wv ix si=0) (hb:checkQ ls=0) (ho:onQ oi ol=0) (po:Int) (hp:po=0∨po=1):AskOk (askF wv ix si po ls oi ol pa cap):=by
 obtain⟨s1,s2,s3⟩:=setQ_zero hs
 obtain⟨b1,b2,b3⟩:=checkQ_zero hb
 obtain⟨o1,o2⟩:=onQ_zero ho
 exact⟨s2.1,s2.2,s3.1,Int.le_refl _,s3.2,hp,s1.1,Int.le_refl _,s1.2,b1,Nat.le_trans b3 (by decide),o1.1,o1.2,o2.1,o2.2⟩
theorem reflected_to {wv ix si oi ol po:Int}{ls:List Box}{pa:Option Addr}{cap:Nat} (hA:AskOk (askF wv ix si po ls oi ol pa cap)) (w:World) (hr:Row pa ls w) (hpa:∀a,pa=some a→a.block<w.heap.size)
  (R:Res) (hR:ampR (askF wv ix si po ls oi ol pa cap) false=R) (w':World) (h:Below w.heap.size w w') :
  Calls Tryz.prog 127 #[.agg #[.int .i64 ix,.int .i64 si,.int .i64 si,.int .i64 po,.int .i64 wv,.int .i64 wv,.slice pa ls.length cap,.int .i64 oi,.int .i64 ol]] w' fun E w2 =>
   E = .returned (.tuple #[.agg #[.complex .f64 (fl R.a) (fl R.b),.int .i64 R.c],.int .i64 R.q])∧Below w'.heap.size w' w2:=by
 have C:=Reflected_any _ hA w' (hr.bel h) (fun a ha=>Nat.lt_of_lt_of_le (hpa a ha) h.size)
 rw[hR,out_quad]at C
 exact C
theorem pred_any (wv ix si oi ol:Int) (ls:List Box) (pa:Option Addr) (cap:Nat) (hs:setQ wv ix si=0) (hb:checkQ ls=0) (ho:onQ oi ol=0) (w:World) (hr:Row pa ls w) :
  Calls Tryz.prog 77 #[.agg #[.int .i64 wv,.int .i64 ix,.int .i64 si],.slice pa ls.length cap,.agg #[.int .i64 oi,.int .i64 ol]] w fun E w' =>
   E = .returned (.tuple #[(seenB wv ix si ls oi ol).val,.int .i64 (seenB wv ix si ls oi ol).q])∧Below w.heap.size w w':=by
 have hpa:∀a,pa=some a→a.block<w.heap.size:=by
  intro a ha
  have hl:=(checkQ_zero hb).2.1
  obtain⟨a',ha',hlt,_⟩:=hr.get 0 ls[0] (List.getElem?_eq_getElem (by omega))
  rw[ha]at ha'
  cases ha'
  rw[block_add]at hlt
  exact hlt
 have hA0:=askF_ok (pa:=pa) (cap:=cap) hs hb ho 0 (.inl rfl)
 have hA1:=askF_ok (pa:=pa) (cap:=cap) hs hb ho 1 (.inr rfl)
 rw[← seenB_at wv ix si ls oi ol pa cap]
 have f0:=fine_amp (askF wv ix si 0 ls oi ol pa cap) false
 have f1:=fine_amp (askF wv ix si 1 ls oi ol pa cap) false
 have RF0:=reflected_to hA0 w hr hpa _ rfl
 have RF1:=reflected_to hA1 w hr hpa _ rfl
 generalize ampR (askF wv ix si 0 ls oi ol pa cap) false=R0 at *
 generalize ampR (askF wv ix si 1 ls oi ol pa cap) false=R1 at *
 by_cases q0:R0.q=0
 ·have RF0':=RF0
  rw[q0]at RF0'
  by_cases q1:R1.q=0
  ·have RF1':=RF1
   rw[q1]at RF1'
   have TM:=times_to R1 (cj R0) f1 (fine_cj R0)
   have fM:=fine_ti R1 (cj R0)
   by_cases q2:(ti R1 (cj R0)).q=0
   ·have TM':=TM
    rw[q2]at TM'
    have b0:=enR_le f0
    have b1:=enR_le f1
    have rM:=fM.right
    by_cases q3:enRL R0+enRL R1=0
    ·rw[seen_e3 q0 q1 q2 q3]
     exact pred_e3 ix si wv oi ol ls.length cap pa R0 R1 (cj R0) (ti R1 (cj R0)) _ _ _ _ w RF0' RF1' (energy_to R0 f0) (energy_to R1 f1) (conj_to R0 f0) TM' _ _ _ _ (fun w=>PartsOf_yes _ _ _ w rM) b0 b1 q3
    ·rw[seen_ok q0 q1 q2 q3]
     unfold seenM
     refine pred_ok ix si wv oi ol ls.length cap pa R0 R1 (cj R0) (ti R1 (cj R0)) _ _ _ _ w RF0' RF1' (energy_to R0 f0) (energy_to R1 f1) (conj_to R0 f0) TM' _ _ _ _ (fun w=>PartsOf_yes _ _ _ w rM) b0 b1 (by omega) ?_
     obtain⟨⟨x1,x2,y1,y2⟩,r0,r1⟩:=rM
     omega
   ·rw[seen_e2 q0 q1 q2]
    exact pred_e2 ix si wv oi ol ls.length cap pa R0 R1 (cj R0) (ti R1 (cj R0)) _ _ _ _ w RF0' RF1' (energy_to R0 f0) (energy_to R1 f1) (conj_to R0 f0) TM q2
  ·rw[seen_e1 q0 q1]
   exact pred_e1 ix si wv oi ol ls.length cap pa R0 R1 _ _ w RF0' (energy_to R0 f0) RF1 q1
 ·rw[seen_e0 q0]
  exact pred_e0 ix si wv oi ol ls.length cap pa R0 w RF0 q0
@[irreducible] def predM (wv ix si:Int) (ls:List Box) (oi ol:Int):Seen :=
 if fst3 (setQ wv ix si) (checkQ ls) (onQ oi ol)=0 then seenB wv ix si ls oi ol else .bad (fst3 (setQ wv ix si) (checkQ ls) (onQ oi ol))
theorem fst3_zero {a b c:Int} (h:fst3 a b c=0):a=0∧b=0∧c=0:=by
 unfold fst3 at h
 split at h
 ·split at h
  ·exact⟨by assumption,by assumption,h⟩
  ·exact absurd h (by assumption)
 ·exact absurd h (by assumption)
set_option maxHeartbeats 4000000 in
theorem Predicted_any (wv ix si oi ol:Int) (ls:List Box) (pa:Option Addr) (cap:Nat) (w:World) (hr:Row pa ls w) :
  Calls Tryz.prog 17 #[.agg #[.int .i64 wv,.int .i64 ix,.int .i64 si],.slice pa ls.length cap,.agg #[.int .i64 oi,.int .i64 ol]] w fun E w' =>
   E = .returned (.tuple #[(predM wv ix si ls oi ol).val,.int .i64 (predM wv ix si ls oi ol).q])∧Below w.heap.size w w':=by
 have FE:=Lib.hid (fun w' (h:Below w.heap.size w w')=>ferr_any pa ls cap w' (hr.bel h))
 by_cases hq:fst3 (setQ wv ix si) (checkQ ls) (onQ oi ol)=0
 ·obtain⟨q1,q2,q3⟩:=fst3_zero hq
  have PR:=fun w' (h:Below w.heap.size w w')=>pred_any wv ix si oi ol ls pa cap q1 q2 q3 w' (hr.bel h)
  rw[show predM wv ix si ls oi ol=seenB wv ix si ls oi ol from by unfold predM;rw[if_pos hq]]
  generalize seenB wv ix si ls oi ol=S at *
  obtain⟨n0,n1,c0,c1,s0,s1,q⟩:=S
  simp only[Seen.val]at PR ⊢
  rw[q1]at hq
  have PR:=Lib.hid PR
  have SE:=Lib.hid (fun w=>settingErr_any wv ix si w)
  have OE:=Lib.hid (fun w=>onErr_any oi ol w)
  rw[q1]at SE
  rw[q2]at FE
  rw[q3]at OE
  clear hq q1 q2 q3 hr
  go_enter Tryz.func17,Tryz.ntmps17
  go_wp2_with fail
  refine calm 6 (by kernel_rfl) (by kernel_rfl) fun hG => ?_
  have Fa:=hG (w.heap.size) lto
  have D7:=hG (w.heap.size+1) lto
  have Be:=hG (w.heap.size+1+1) lto
  clear hG
  simp only[List.take_succ_cons,List.take_zero,List.drop_succ_cons,List.drop_zero]
  repeat (go_big_quiet_step (first|(go_at_call 74;with_reducible exact calm_call SE.out)|(go_at_call 75;with_reducible exact Calls.regrown_of (FE.out _ (bl_call blw (below_regrown _ _ _))))|(go_at_call 76;with_reducible exact calm_call OE.out)))
  refine wpQuiet_nil ?_
  intro w1 A0
  clear Fa D7 Be
  have Aq:=A0.size
  (try simp at Aq)
  have Bc:=bl5 A0 (w.heap.size)
  have Ar:=bl5 A0 (w.heap.size+1)
  have As:=bl5 A0 (w.heap.size+1+1)
  go_wp2_with fail
  refine(first3_any _ _ 0 0 0 _ (by go_simp) (by go_simp) (by go_simp)).mono ?_
  rintro e w' ⟨rfl,hw'⟩
  rw[hw',fst3_c]
  clear hw' w'
  go_wp2_with fail
  refine(PR.out _ blw).mono ?_
  rintro e w3 ⟨rfl,Bd⟩
  have Ag:=Bd.size
  (try simp at Ag)
  have Ah:=bl5 Bd (w.heap.size+1+1)
  repeat' (first|go_values|go_skip|go_guarded|go_step|go_upon|(simp only[];go_simp))
  (with_reducible show bodyPost _ _ _ _ _ _);refine bodyPost_ret (by simp[results,Tryz.results17,go_sem, *];first|done|rfl) rfl ?_
  exact⟨rfl,blw⟩
 ·rw[show predM wv ix si ls oi ol = .bad (fst3 (setQ wv ix si) (checkQ ls) (onQ oi ol))from by unfold predM;rw[if_neg hq]]
  have SE:=Lib.hid (fun w=>settingErr_any wv ix si w)
  have OE:=Lib.hid (fun w=>onErr_any oi ol w)
  generalize setQ wv ix si=a at *
  generalize checkQ ls=b at *
  generalize onQ oi ol=c at *
  obtain⟨q,hfst⟩:∃q,fst3 a b c=q:=⟨_,rfl⟩
  rw[hfst]at hq ⊢
  have hq1:(q != 0)=true:=by simpa using hq
  have hfst:=Lib.hid hfst
  clear hr hq
  simp only[Seen.val,Seen.bad]
  go_enter Tryz.func17,Tryz.ntmps17
  go_wp2_with fail
  refine calm 6 (by kernel_rfl) (by kernel_rfl) fun hG => ?_
  have Fa:=hG (w.heap.size) lto
  have D7:=hG (w.heap.size+1) lto
  have Be:=hG (w.heap.size+1+1) lto
  clear hG
  simp only[List.take_succ_cons,List.take_zero,List.drop_succ_cons,List.drop_zero]
  repeat (go_big_quiet_step (first|(go_at_call 74;with_reducible exact calm_call SE.out)|(go_at_call 75;with_reducible exact Calls.regrown_of (FE.out _ (bl_call blw (below_regrown _ _ _))))|(go_at_call 76;with_reducible exact calm_call OE.out)))
  refine wpQuiet_nil ?_
  intro w1 A0
  clear Fa D7 Be
  have Aq:=A0.size
  (try simp at Aq)
  have Bc:=bl5 A0 (w.heap.size)
  have Ar:=bl5 A0 (w.heap.size+1)
  have As:=bl5 A0 (w.heap.size+1+1)
  go_wp2_with fail
  refine(first3_any _ _ a b c _ (by go_simp) (by go_simp) (by go_simp)).mono ?_
  rintro e w' ⟨rfl,hw'⟩
  rw[hw',hfst.out]
  clear hw' w'
  repeat' (first|go_values|go_skip|go_guarded|go_step|go_upon|(simp only[];go_simp))
  (with_reducible show bodyPost _ _ _ _ _ _);refine bodyPost_ret (by simp[results,Tryz.results17,go_sem, *];first|done|rfl) rfl ?_
  exact⟨rfl,blw⟩
end Go.Proofs.YtjbfaaolfonmaaaGreat
