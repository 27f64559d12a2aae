/- What would be read of right boxes: the reference's walk. -/
import Derived.Test.YtjbfaaolfonmaaaGreatREnergy
import Derived.Test.YtjbfaaolfonmaaaGreatRAmp
import Derived.Test.YtjbfaaolfonmaaaGreatKFit
namespace Go.Proofs.YtjbfaaolfonmaaaGreat
open Go Go.Sort Go.RowKit
theorem rask_any (ix si wv oi ol po:Int) (pa:Option Addr) (n cap:Nat) (w:World) :
  Calls Tryz.prog 82 #[.agg #[.int .i64 wv,.int .i64 ix,.int .i64 si],.slice pa n cap,.agg #[.int .i64 oi,.int .i64 ol],.int .i64 po] w fun E w' =>
   E = .returned (.agg #[.int .i64 ix,.int .i64 si,.int .i64 si,.int .i64 po,.int .i64 wv,.int .i64 wv,.slice pa n cap,.int .i64 oi,.int .i64 ol])∧Below w.heap.size w w':=by
 go_enter Tryz.func82,Tryz.ntmps82
 repeat' (first|go_values|go_skip|go_guarded|go_step|go_upon|(simp only[];go_simp))
 (with_reducible show bodyPost _ _ _ _ _ _);refine bodyPost_ret (by simp[results,Tryz.results82,go_sem, *];first|done|rfl) rfl ?_
 exact⟨rfl,blw⟩
set_option maxRecDepth 100000 in
set_option maxHeartbeats 8000000 in
theorem rpred_e0 (ix si wv oi ol:Int) (n cap:Nat) (pa:Option Addr) (R0:Res) (w:World)
  (RF0:(∀w',Below w.heap.size w w'→Calls Tryz.prog 81 #[.agg #[.int .i64 ix,.int .i64 si,.int .i64 si,.int .i64 0,.int .i64 wv,.int .i64 wv,.slice pa n cap,.int .i64 oi,.int .i64 ol]] w' fun E w2=>E = .returned (.tuple #[.agg #[.int .i64 R0.a,.int .i64 R0.b,.int .i64 R0.c],.int .i64 R0.q])∧Below w'.heap.size w' w2))
  (hq:R0.q≠0)
  : Calls Tryz.prog 22 #[.agg #[.int .i64 wv,.int .i64 ix,.int .i64 si],.slice pa n cap,.agg #[.int .i64 oi,.int .i64 ol]] w fun E w'=>E = .returned (.tuple #[.agg #[.int .i64 0,.int .i64 0,.int .i64 0,.int .i64 0,.int .i64 0,.int .i64 0],.int .i64 R0.q])∧Below w.heap.size w w':=by
 have hq1:(R0.q != 0)=true:=by simpa using hq
 have RF0:=Lib.hid RF0
 go_enter Tryz.func22,Tryz.ntmps22
 go_wp2_with fail
 refine(rask_any _ _ _ _ _ _ _ _ _ _).mono ?_
 rintro e w1 ⟨rfl,A3⟩
 have Af:=A3.size
 (try simp at Af)
 have Ah:=bl5 A3 (w.heap.size+1+1)
 have Ao:=bl5 A3 (w.heap.size+1+1+1)
 go_wp2_with fail
 refine(RF0.out _ blw).mono ?_
 rintro e w2 ⟨rfl,A4⟩
 have Ag:=A4.size
 (try simp at Ag)
 have Ai:=bl5 A4 (w.heap.size+1+1)
 have Aq:=bl5 A4 (w.heap.size+1+1+1)
 repeat' (first|go_values|go_skip|go_guarded|go_step|go_upon|(simp only[];go_simp))
 (with_reducible show bodyPost _ _ _ _ _ _);refine bodyPost_ret (by simp[results,Tryz.results22,go_sem, *];first|done|rfl) rfl ?_
 exact⟨rfl,blw⟩
set_option maxRecDepth 100000 in
set_option maxHeartbeats 8000000 in
theorem rpred_e1 (ix si wv oi ol:Int) (n cap:Nat) (pa:Option Addr) (R0 R1:Res) (w:World)
  (RF0:(∀w',Below w.heap.size w w'→Calls Tryz.prog 81 #[.agg #[.int .i64 ix,.int .i64 si,.int .i64 si,.int .i64 0,.int .i64 wv,.int .i64 wv,.slice pa n cap,.int .i64 oi,.int .i64 ol]] w' fun E w2=>E = .returned (.tuple #[.agg #[.int .i64 R0.a,.int .i64 R0.b,.int .i64 R0.c],.int .i64 0])∧Below w'.heap.size w' w2))
  (RF1:(∀w',Below w.heap.size w w'→Calls Tryz.prog 81 #[.agg #[.int .i64 ix,.int .i64 si,.int .i64 si,.int .i64 1,.int .i64 wv,.int .i64 wv,.slice pa n cap,.int .i64 oi,.int .i64 ol]] w' fun E w2=>E = .returned (.tuple #[.agg #[.int .i64 R1.a,.int .i64 R1.b,.int .i64 R1.c],.int .i64 R1.q])∧Below w'.heap.size w' w2))
  (hq:R1.q≠0)
  : Calls Tryz.prog 22 #[.agg #[.int .i64 wv,.int .i64 ix,.int .i64 si],.slice pa n cap,.agg #[.int .i64 oi,.int .i64 ol]] w fun E w'=>E = .returned (.tuple #[.agg #[.int .i64 0,.int .i64 0,.int .i64 0,.int .i64 0,.int .i64 0,.int .i64 0],.int .i64 R1.q])∧Below w.heap.size w w':=by
 have hq1:(R1.q != 0)=true:=by simpa using hq
 have RF0:=Lib.hid RF0
 have RF1:=Lib.hid RF1
 go_enter Tryz.func22,Tryz.ntmps22
 go_wp2_with fail
 refine(rask_any _ _ _ _ _ _ _ _ _ _).mono ?_
 rintro e w1 ⟨rfl,A3⟩
 have Af:=A3.size
 (try simp at Af)
 have Bp:=bl5 A3 (w.heap.size)
 have An:=bl5 A3 (w.heap.size+1)
 have Ah:=bl5 A3 (w.heap.size+1+1)
 have Ao:=bl5 A3 (w.heap.size+1+1+1)
 go_wp2_with fail
 refine(RF0.out _ blw).mono ?_
 rintro e w2 ⟨rfl,A4⟩
 have Ag:=A4.size
 (try simp at Ag)
 have Bq:=bl5 A4 (w.heap.size)
 have Ap:=bl5 A4 (w.heap.size+1)
 have Ai:=bl5 A4 (w.heap.size+1+1)
 have Aq:=bl5 A4 (w.heap.size+1+1+1)
 go_wp2_with fail
 refine(rask_any _ _ _ _ _ _ _ _ _ _).mono ?_
 rintro e w3 ⟨rfl,A7⟩
 have Al:=A7.size
 (try simp at Al)
 have Ar:=bl5 A7 (w.heap.size+1+1)
 have Bl:=bl5 A7 (w.heap.size+1+1+1)
 go_wp2_with fail
 refine(RF1.out _ blw).mono ?_
 rintro e w4 ⟨rfl,A8⟩
 have Am:=A8.size
 (try simp at Am)
 have As:=bl5 A8 (w.heap.size+1+1)
 have Bm:=bl5 A8 (w.heap.size+1+1+1)
 repeat' (first|go_values|go_skip|go_guarded|go_step|go_upon|(simp only[];go_simp))
 (with_reducible show bodyPost _ _ _ _ _ _);refine bodyPost_ret (by simp[results,Tryz.results22,go_sem, *];first|done|rfl) rfl ?_
 exact⟨rfl,blw⟩
set_option maxRecDepth 100000 in
set_option maxHeartbeats 8000000 in
theorem rpred_e2 (ix si wv oi ol:Int) (n cap:Nat) (pa:Option Addr) (R0 R1 C0 M:Res) (a0 a1 c0 c1:Int) (w:World)
  (RF0:(∀w',Below w.heap.size w w'→Calls Tryz.prog 81 #[.agg #[.int .i64 ix,.int .i64 si,.int .i64 si,.int .i64 0,.int .i64 wv,.int .i64 wv,.slice pa n cap,.int .i64 oi,.int .i64 ol]] w' fun E w2=>E = .returned (.tuple #[.agg #[.int .i64 R0.a,.int .i64 R0.b,.int .i64 R0.c],.int .i64 0])∧Below w'.heap.size w' w2))
  (RF1:(∀w',Below w.heap.size w w'→Calls Tryz.prog 81 #[.agg #[.int .i64 ix,.int .i64 si,.int .i64 si,.int .i64 1,.int .i64 wv,.int .i64 wv,.slice pa n cap,.int .i64 oi,.int .i64 ol]] w' fun E w2=>E = .returned (.tuple #[.agg #[.int .i64 R1.a,.int .i64 R1.b,.int .i64 R1.c],.int .i64 0])∧Below w'.heap.size w' w2))
  (EN0:(∀w',Calls Tryz.prog 83 #[.agg #[.int .i64 R0.a,.int .i64 R0.b,.int .i64 R0.c]] w' fun E w2=>E = .returned (.agg #[.int .i64 a0,.int .i64 a1])∧Below w'.heap.size w' w2))
  (EN1:(∀w',Calls Tryz.prog 83 #[.agg #[.int .i64 R1.a,.int .i64 R1.b,.int .i64 R1.c]] w' fun E w2=>E = .returned (.agg #[.int .i64 c0,.int .i64 c1])∧Below w'.heap.size w' w2))
  (CJ:(∀w',Calls Tryz.prog 85 #[.agg #[.int .i64 R0.a,.int .i64 R0.b,.int .i64 R0.c]] w' fun E w2=>E = .returned (.agg #[.int .i64 C0.a,.int .i64 C0.b,.int .i64 C0.c])∧Below w'.heap.size w' w2))
  (TM:(∀w',Calls Tryz.prog 84 #[.agg #[.int .i64 R1.a,.int .i64 R1.b,.int .i64 R1.c],.agg #[.int .i64 C0.a,.int .i64 C0.b,.int .i64 C0.c]] w' fun E w2=>E = .returned (.tuple #[.agg #[.int .i64 M.a,.int .i64 M.b,.int .i64 M.c],.int .i64 M.q])∧Below w'.heap.size w' w2))
  (hq:M.q≠0)
  : Calls Tryz.prog 22 #[.agg #[.int .i64 wv,.int .i64 ix,.int .i64 si],.slice pa n cap,.agg #[.int .i64 oi,.int .i64 ol]] w fun E w'=>E = .returned (.tuple #[.agg #[.int .i64 0,.int .i64 0,.int .i64 0,.int .i64 0,.int .i64 0,.int .i64 0],.int .i64 M.q])∧Below w.heap.size w w':=by
 have hq1:(M.q != 0)=true:=by simpa using hq
 have RF0:=Lib.hid RF0
 have RF1:=Lib.hid RF1
 have EN0:=Lib.hid EN0
 have EN1:=Lib.hid EN1
 have CJ:=Lib.hid CJ
 have TM:=Lib.hid TM
 go_enter Tryz.func22,Tryz.ntmps22
 go_wp2_with fail
 refine(rask_any _ _ _ _ _ _ _ _ _ _).mono ?_
 rintro e w1 ⟨rfl,A3⟩
 have Af:=A3.size
 (try simp at Af)
 have Bp:=bl5 A3 (w.heap.size)
 have An:=bl5 A3 (w.heap.size+1)
 have Ah:=bl5 A3 (w.heap.size+1+1)
 have Ao:=bl5 A3 (w.heap.size+1+1+1)
 go_wp2_with fail
 refine(RF0.out _ blw).mono ?_
 rintro e w2 ⟨rfl,A4⟩
 have Ag:=A4.size
 (try simp at Ag)
 have Bq:=bl5 A4 (w.heap.size)
 have Ap:=bl5 A4 (w.heap.size+1)
 have Ai:=bl5 A4 (w.heap.size+1+1)
 have Aq:=bl5 A4 (w.heap.size+1+1+1)
 go_wp2_with fail
 refine(rask_any _ _ _ _ _ _ _ _ _ _).mono ?_
 rintro e w3 ⟨rfl,A7⟩
 have Al:=A7.size
 (try simp at Al)
 have Ar:=bl5 A7 (w.heap.size+1+1)
 have Bl:=bl5 A7 (w.heap.size+1+1+1)
 have Br:=bl5 A7 (w2.heap.size)
 go_wp2_with fail
 refine(RF1.out _ blw).mono ?_
 rintro e w4 ⟨rfl,A8⟩
 have Am:=A8.size
 (try simp at Am)
 have As:=bl5 A8 (w.heap.size+1+1)
 have Bm:=bl5 A8 (w.heap.size+1+1+1)
 have Bs:=bl5 A8 (w2.heap.size)
 go_wp2_with fail
 refine calm_two 4 #[.int .i64 0,.int .i64 0] #[.int .i64 0,.int .i64 0] 32 32 _ _ rfl rfl (by kernel_rfl) (by kernel_rfl) (fun a w=>by kernel_rfl) (fun a w=>by kernel_rfl) fun hG => ?_
 have A5:=hG (w.heap.size+1+1) lto
 have Ae:=hG (w.heap.size+1+1+1) lto
 have Ac:=hG (w2.heap.size) lto
 have Ad:=hG (w4.heap.size) lto
 clear hG
 simp only[List.take_succ_cons,List.take_zero,List.drop_succ_cons,List.drop_zero]
 repeat (refine wpCalm_step (fun K hK => ?_);go_simp;first|(refine hK _ ?_;clear hK K)|(apply Exists.intro;refine⟨fun _ => ?_,hK _ ?_⟩;(first|(go_at_call 83;first|with_reducible exact cal_call EN0.out|with_reducible exact cal_call EN1.out));clear hK K))
 refine wpCalm_nil ?_
 intro B1 B2 w5 hN hM Ab
 obtain⟨A9,A1,Ca,Ch,Ck⟩:=hN
 obtain⟨_,A2,Cb,Ci,Cl⟩:=hM
 (try simp at A1 A2)
 have B0:¬B2=B1:=Ne.symm Ab
 clear A5 Ae Ac Ad
 have Bj:=A9.size
 (try simp at Bj)
 have Bn:=bl5 A9 (w.heap.size+1+1)
 have Cd:=bl5 A9 (w.heap.size+1+1+1)
 have Bt:=bl5 A9 (w2.heap.size)
 have Bu:=bl5 A9 (w4.heap.size)
 have Ax:¬B1=w.heap.size+1+1:=by first|omega|(simp at A1;omega)
 have Au:¬w.heap.size+1+1=B1:=by first|omega|(simp at A1;omega)
 have C3:¬B1=w.heap.size+1+1+1:=by first|omega|(simp at A1;omega)
 have Bx:¬w.heap.size+1+1+1=B1:=by first|omega|(simp at A1;omega)
 have Bd:¬B1=w2.heap.size:=by first|omega|(simp at A1;omega)
 have B7:¬w2.heap.size=B1:=by first|omega|(simp at A1;omega)
 have Be:¬B1=w4.heap.size:=by first|omega|(simp at A1;omega)
 have B8:¬w4.heap.size=B1:=by first|omega|(simp at A1;omega)
 have Ay:¬B2=w.heap.size+1+1:=by first|omega|(simp at A2;omega)
 have Av:¬w.heap.size+1+1=B2:=by first|omega|(simp at A2;omega)
 have C4:¬B2=w.heap.size+1+1+1:=by first|omega|(simp at A2;omega)
 have By:¬w.heap.size+1+1+1=B2:=by first|omega|(simp at A2;omega)
 have Bf:¬B2=w2.heap.size:=by first|omega|(simp at A2;omega)
 have B9:¬w2.heap.size=B2:=by first|omega|(simp at A2;omega)
 have Bg:¬B2=w4.heap.size:=by first|omega|(simp at A2;omega)
 have Ba:¬w4.heap.size=B2:=by first|omega|(simp at A2;omega)
 go_wp2_with fail
 refine calm_late 7 6 #[.int .i64 0,.int .i64 0,.int .i64 0] 151 _ _ _ rfl rfl rfl (by kernel_rfl) (by kernel_rfl) (by kernel_rfl) (fun _ _ _ _ h=>h) (fun a w=>by kernel_rfl) fun hG => ?_
 have A5:=hG (w.heap.size+1+1) lto
 have Ae:=hG (w.heap.size+1+1+1) lto
 have Ac:=hG (w2.heap.size) lto
 have Ad:=hG (w4.heap.size) lto
 clear hG
 simp only[List.take_succ_cons,List.take_zero,List.drop_succ_cons,List.drop_zero]
 repeat (refine wpCalm_step (fun K hK => ?_);go_simp;first|(refine hK _ ?_;clear hK K)|(apply Exists.intro;refine⟨fun _ => ?_,hK _ ?_⟩;(first|(go_at_call 85;with_reducible exact cal_call CJ.out)|(go_at_call 84;with_reducible exact cal_call TM.out));clear hK K))
 refine wpCalm_nil ?_
 intro B3 w6 hN
 obtain⟨A6,A0,Cc,Cj,Cm⟩:=hN
 (try simp at A0)
 clear A5 Ae Ac Ad
 have Bk:=A6.size
 (try simp at Bk)
 have Bo:=bl5 A6 (w.heap.size+1+1)
 have Ce:=bl5 A6 (w.heap.size+1+1+1)
 have Bv:=bl5 A6 (w2.heap.size)
 have Bw:=bl5 A6 (w4.heap.size)
 have Az:¬B3=w.heap.size+1+1:=by first|omega|(simp at A0;omega)
 have Aw:¬w.heap.size+1+1=B3:=by first|omega|(simp at A0;omega)
 have C5:¬B3=w.heap.size+1+1+1:=by first|omega|(simp at A0;omega)
 have Bz:¬w.heap.size+1+1+1=B3:=by first|omega|(simp at A0;omega)
 have Bh:¬B3=w2.heap.size:=by first|omega|(simp at A0;omega)
 have Bb:¬w2.heap.size=B3:=by first|omega|(simp at A0;omega)
 have Bi:¬B3=w4.heap.size:=by first|omega|(simp at A0;omega)
 have Bc:¬w4.heap.size=B3:=by first|omega|(simp at A0;omega)
 repeat' (first|go_values|go_skip|go_guarded|go_step|go_upon|(simp only[];go_simp))
 (with_reducible show bodyPost _ _ _ _ _ _);refine bodyPost_ret (by simp[results,Tryz.results22,go_sem, *];first|done|rfl) rfl ?_
 exact⟨rfl,blw⟩
set_option maxRecDepth 100000 in
set_option maxHeartbeats 8000000 in
theorem rpred_e3 (ix si wv oi ol:Int) (n cap:Nat) (pa:Option Addr) (R0 R1 C0 M:Res) (a0 a1 c0 c1:Int) (w:World)
  (RF0:(∀w',Below w.heap.size w w'→Calls Tryz.prog 81 #[.agg #[.int .i64 ix,.int .i64 si,.int .i64 si,.int .i64 0,.int .i64 wv,.int .i64 wv,.slice pa n cap,.int .i64 oi,.int .i64 ol]] w' fun E w2=>E = .returned (.tuple #[.agg #[.int .i64 R0.a,.int .i64 R0.b,.int .i64 R0.c],.int .i64 0])∧Below w'.heap.size w' w2))
  (RF1:(∀w',Below w.heap.size w w'→Calls Tryz.prog 81 #[.agg #[.int .i64 ix,.int .i64 si,.int .i64 si,.int .i64 1,.int .i64 wv,.int .i64 wv,.slice pa n cap,.int .i64 oi,.int .i64 ol]] w' fun E w2=>E = .returned (.tuple #[.agg #[.int .i64 R1.a,.int .i64 R1.b,.int .i64 R1.c],.int .i64 0])∧Below w'.heap.size w' w2))
  (EN0:(∀w',Calls Tryz.prog 83 #[.agg #[.int .i64 R0.a,.int .i64 R0.b,.int .i64 R0.c]] w' fun E w2=>E = .returned (.agg #[.int .i64 a0,.int .i64 a1])∧Below w'.heap.size w' w2))
  (EN1:(∀w',Calls Tryz.prog 83 #[.agg #[.int .i64 R1.a,.int .i64 R1.b,.int .i64 R1.c]] w' fun E w2=>E = .returned (.agg #[.int .i64 c0,.int .i64 c1])∧Below w'.heap.size w' w2))
  (CJ:(∀w',Calls Tryz.prog 85 #[.agg #[.int .i64 R0.a,.int .i64 R0.b,.int .i64 R0.c]] w' fun E w2=>E = .returned (.agg #[.int .i64 C0.a,.int .i64 C0.b,.int .i64 C0.c])∧Below w'.heap.size w' w2))
  (TM:(∀w',Calls Tryz.prog 84 #[.agg #[.int .i64 R1.a,.int .i64 R1.b,.int .i64 R1.c],.agg #[.int .i64 C0.a,.int .i64 C0.b,.int .i64 C0.c]] w' fun E w2=>E = .returned (.tuple #[.agg #[.int .i64 M.a,.int .i64 M.b,.int .i64 M.c],.int .i64 0])∧Below w'.heap.size w' w2))
  (ha:0≤a0∧a0≤a1∧a1≤1099511627776)
  (hc:0≤c0∧c0≤c1∧c1≤1099511627776)
  (hz:a0+c0=0)
  : Calls Tryz.prog 22 #[.agg #[.int .i64 wv,.int .i64 ix,.int .i64 si],.slice pa n cap,.agg #[.int .i64 oi,.int .i64 ol]] w fun E w'=>E = .returned (.tuple #[.agg #[.int .i64 0,.int .i64 0,.int .i64 0,.int .i64 0,.int .i64 0,.int .i64 0],.int .i64 9])∧Below w.heap.size w w':=by
 have W0:IntKind.i64.wrap (a0+c0)=0:=by rw[hz];decide
 have W1:IntKind.i64.wrap (a1+c1)=(a1+c1):=IntWalk.i64_in _ ⟨by omega,by omega⟩
 have V0:wrap64 (a0+c0)=0:=by rw[hz];exact IntWalk.wrap64_in _ ⟨by omega,by omega⟩
 have RF0:=Lib.hid RF0
 have RF1:=Lib.hid RF1
 have EN0:=Lib.hid EN0
 have EN1:=Lib.hid EN1
 have CJ:=Lib.hid CJ
 have TM:=Lib.hid TM
 go_enter Tryz.func22,Tryz.ntmps22
 go_wp2_with fail
 refine(rask_any _ _ _ _ _ _ _ _ _ _).mono ?_
 rintro e w1 ⟨rfl,A3⟩
 have Af:=A3.size
 (try simp at Af)
 have Bp:=bl5 A3 (w.heap.size)
 have An:=bl5 A3 (w.heap.size+1)
 have Ah:=bl5 A3 (w.heap.size+1+1)
 have Ao:=bl5 A3 (w.heap.size+1+1+1)
 go_wp2_with fail
 refine(RF0.out _ blw).mono ?_
 rintro e w2 ⟨rfl,A4⟩
 have Ag:=A4.size
 (try simp at Ag)
 have Bq:=bl5 A4 (w.heap.size)
 have Ap:=bl5 A4 (w.heap.size+1)
 have Ai:=bl5 A4 (w.heap.size+1+1)
 have Aq:=bl5 A4 (w.heap.size+1+1+1)
 go_wp2_with fail
 refine(rask_any _ _ _ _ _ _ _ _ _ _).mono ?_
 rintro e w3 ⟨rfl,A7⟩
 have Al:=A7.size
 (try simp at Al)
 have Ar:=bl5 A7 (w.heap.size+1+1)
 have Bl:=bl5 A7 (w.heap.size+1+1+1)
 have Br:=bl5 A7 (w2.heap.size)
 go_wp2_with fail
 refine(RF1.out _ blw).mono ?_
 rintro e w4 ⟨rfl,A8⟩
 have Am:=A8.size
 (try simp at Am)
 have As:=bl5 A8 (w.heap.size+1+1)
 have Bm:=bl5 A8 (w.heap.size+1+1+1)
 have Bs:=bl5 A8 (w2.heap.size)
 go_wp2_with fail
 refine calm_two 4 #[.int .i64 0,.int .i64 0] #[.int .i64 0,.int .i64 0] 32 32 _ _ rfl rfl (by kernel_rfl) (by kernel_rfl) (fun a w=>by kernel_rfl) (fun a w=>by kernel_rfl) fun hG => ?_
 have A5:=hG (w.heap.size+1+1) lto
 have Ae:=hG (w.heap.size+1+1+1) lto
 have Ac:=hG (w2.heap.size) lto
 have Ad:=hG (w4.heap.size) lto
 clear hG
 simp only[List.take_succ_cons,List.take_zero,List.drop_succ_cons,List.drop_zero]
 repeat (refine wpCalm_step (fun K hK => ?_);go_simp;first|(refine hK _ ?_;clear hK K)|(apply Exists.intro;refine⟨fun _ => ?_,hK _ ?_⟩;(first|(go_at_call 83;first|with_reducible exact cal_call EN0.out|with_reducible exact cal_call EN1.out));clear hK K))
 refine wpCalm_nil ?_
 intro B1 B2 w5 hN hM Ab
 obtain⟨A9,A1,Ca,Ch,Ck⟩:=hN
 obtain⟨_,A2,Cb,Ci,Cl⟩:=hM
 (try simp at A1 A2)
 have B0:¬B2=B1:=Ne.symm Ab
 clear A5 Ae Ac Ad
 have Bj:=A9.size
 (try simp at Bj)
 have Bn:=bl5 A9 (w.heap.size+1+1)
 have Cd:=bl5 A9 (w.heap.size+1+1+1)
 have Bt:=bl5 A9 (w2.heap.size)
 have Bu:=bl5 A9 (w4.heap.size)
 have Ax:¬B1=w.heap.size+1+1:=by first|omega|(simp at A1;omega)
 have Au:¬w.heap.size+1+1=B1:=by first|omega|(simp at A1;omega)
 have C3:¬B1=w.heap.size+1+1+1:=by first|omega|(simp at A1;omega)
 have Bx:¬w.heap.size+1+1+1=B1:=by first|omega|(simp at A1;omega)
 have Bd:¬B1=w2.heap.size:=by first|omega|(simp at A1;omega)
 have B7:¬w2.heap.size=B1:=by first|omega|(simp at A1;omega)
 have Be:¬B1=w4.heap.size:=by first|omega|(simp at A1;omega)
 have B8:¬w4.heap.size=B1:=by first|omega|(simp at A1;omega)
 have Ay:¬B2=w.heap.size+1+1:=by first|omega|(simp at A2;omega)
 have Av:¬w.heap.size+1+1=B2:=by first|omega|(simp at A2;omega)
 have C4:¬B2=w.heap.size+1+1+1:=by first|omega|(simp at A2;omega)
 have By:¬w.heap.size+1+1+1=B2:=by first|omega|(simp at A2;omega)
 have Bf:¬B2=w2.heap.size:=by first|omega|(simp at A2;omega)
 have B9:¬w2.heap.size=B2:=by first|omega|(simp at A2;omega)
 have Bg:¬B2=w4.heap.size:=by first|omega|(simp at A2;omega)
 have Ba:¬w4.heap.size=B2:=by first|omega|(simp at A2;omega)
 go_wp2_with fail
 refine calm_late 7 6 #[.int .i64 0,.int .i64 0,.int .i64 0] 151 _ _ _ rfl rfl rfl (by kernel_rfl) (by kernel_rfl) (by kernel_rfl) (fun _ _ _ _ h=>h) (fun a w=>by kernel_rfl) fun hG => ?_
 have A5:=hG (w.heap.size+1+1) lto
 have Ae:=hG (w.heap.size+1+1+1) lto
 have Ac:=hG (w2.heap.size) lto
 have Ad:=hG (w4.heap.size) lto
 have Aj:=hG (B1) lto
 have Ak:=hG (B2) lto
 clear hG
 simp only[List.take_succ_cons,List.take_zero,List.drop_succ_cons,List.drop_zero]
 repeat (refine wpCalm_step (fun K hK => ?_);go_simp;first|(refine hK _ ?_;clear hK K)|(apply Exists.intro;refine⟨fun _ => ?_,hK _ ?_⟩;(first|(go_at_call 85;with_reducible exact cal_call CJ.out)|(go_at_call 84;with_reducible exact cal_call TM.out));clear hK K))
 refine wpCalm_nil ?_
 intro B3 w6 hN
 obtain⟨A6,A0,Cc,Cj,Cm⟩:=hN
 (try simp at A0)
 clear A5 Ae Ac Ad Aj Ak
 have Bk:=A6.size
 (try simp at Bk)
 have Bo:=bl5 A6 (w.heap.size+1+1)
 have Ce:=bl5 A6 (w.heap.size+1+1+1)
 have Bv:=bl5 A6 (w2.heap.size)
 have Bw:=bl5 A6 (w4.heap.size)
 have Cf:=bl5 A6 (B1)
 have Cg:=bl5 A6 (B2)
 have Az:¬B3=w.heap.size+1+1:=by first|omega|(simp at A0;omega)
 have Aw:¬w.heap.size+1+1=B3:=by first|omega|(simp at A0;omega)
 have C5:¬B3=w.heap.size+1+1+1:=by first|omega|(simp at A0;omega)
 have Bz:¬w.heap.size+1+1+1=B3:=by first|omega|(simp at A0;omega)
 have Bh:¬B3=w2.heap.size:=by first|omega|(simp at A0;omega)
 have Bb:¬w2.heap.size=B3:=by first|omega|(simp at A0;omega)
 have Bi:¬B3=w4.heap.size:=by first|omega|(simp at A0;omega)
 have Bc:¬w4.heap.size=B3:=by first|omega|(simp at A0;omega)
 have C6:¬B3=B1:=by first|omega|(simp at A0;omega)
 have C1:¬B1=B3:=by first|omega|(simp at A0;omega)
 have C7:¬B3=B2:=by first|omega|(simp at A0;omega)
 have C2:¬B2=B3:=by first|omega|(simp at A0;omega)
 repeat' (first|go_values|go_skip|go_guarded|go_step|go_upon|(simp only[];go_simp))
 (with_reducible show bodyPost _ _ _ _ _ _);refine bodyPost_ret (by simp[results,Tryz.results22,go_sem, *];first|done|rfl) rfl ?_
 exact⟨rfl,blw⟩
set_option maxRecDepth 100000 in
set_option maxHeartbeats 8000000 in
theorem rpred_ok (ix si wv oi ol:Int) (n cap:Nat) (pa:Option Addr) (R0 R1 C0 M:Res) (a0 a1 c0 c1 p0 p1 p2 p3 n0 n1 u0 u1 x0 x1 y0 y1:Int) (w:World)
  (RF0:(∀w',Below w.heap.size w w'→Calls Tryz.prog 81 #[.agg #[.int .i64 ix,.int .i64 si,.int .i64 si,.int .i64 0,.int .i64 wv,.int .i64 wv,.slice pa n cap,.int .i64 oi,.int .i64 ol]] w' fun E w2=>E = .returned (.tuple #[.agg #[.int .i64 R0.a,.int .i64 R0.b,.int .i64 R0.c],.int .i64 0])∧Below w'.heap.size w' w2))
  (RF1:(∀w',Below w.heap.size w w'→Calls Tryz.prog 81 #[.agg #[.int .i64 ix,.int .i64 si,.int .i64 si,.int .i64 1,.int .i64 wv,.int .i64 wv,.slice pa n cap,.int .i64 oi,.int .i64 ol]] w' fun E w2=>E = .returned (.tuple #[.agg #[.int .i64 R1.a,.int .i64 R1.b,.int .i64 R1.c],.int .i64 0])∧Below w'.heap.size w' w2))
  (EN0:(∀w',Calls Tryz.prog 83 #[.agg #[.int .i64 R0.a,.int .i64 R0.b,.int .i64 R0.c]] w' fun E w2=>E = .returned (.agg #[.int .i64 a0,.int .i64 a1])∧Below w'.heap.size w' w2))
  (EN1:(∀w',Calls Tryz.prog 83 #[.agg #[.int .i64 R1.a,.int .i64 R1.b,.int .i64 R1.c]] w' fun E w2=>E = .returned (.agg #[.int .i64 c0,.int .i64 c1])∧Below w'.heap.size w' w2))
  (CJ:(∀w',Calls Tryz.prog 85 #[.agg #[.int .i64 R0.a,.int .i64 R0.b,.int .i64 R0.c]] w' fun E w2=>E = .returned (.agg #[.int .i64 C0.a,.int .i64 C0.b,.int .i64 C0.c])∧Below w'.heap.size w' w2))
  (TM:(∀w',Calls Tryz.prog 84 #[.agg #[.int .i64 R1.a,.int .i64 R1.b,.int .i64 R1.c],.agg #[.int .i64 C0.a,.int .i64 C0.b,.int .i64 C0.c]] w' fun E w2=>E = .returned (.tuple #[.agg #[.int .i64 M.a,.int .i64 M.b,.int .i64 M.c],.int .i64 0])∧Below w'.heap.size w' w2))
  (PO:(∀w',Calls Tryz.prog 86 #[.agg #[.int .i64 M.a,.int .i64 M.b,.int .i64 M.c]] w' fun E w2=>E = .returned (.agg #[.int .i64 p0,.int .i64 p1,.int .i64 p2,.int .i64 p3])∧Below w'.heap.size w' w2))
  (FF:(∀w',Calls Tryz.prog 33 #[.int .i64 ((a0-c1)*1048576),.int .i64 (a0+c1)] w' fun E w2=>E = .returned (.int .i64 n0)∧w2=w'))
  (FC:(∀w',Calls Tryz.prog 88 #[.int .i64 ((a1-c0)*1048576),.int .i64 (a1+c0)] w' fun E w2=>E = .returned (.int .i64 n1)∧w2=w'))
  (CU:(∀w',Calls Tryz.prog 87 #[.int .i64 n0,.int .i64 n1] w' fun E w2=>E = .returned (.agg #[.int .i64 u0,.int .i64 u1])∧Below w'.heap.size w' w2))
  (S0:(∀w',Calls Tryz.prog 89 #[.agg #[.int .i64 p0,.int .i64 p1],.agg #[.int .i64 (a0+c0),.int .i64 (a1+c1)]] w' fun E w2=>E = .returned (.agg #[.int .i64 x0,.int .i64 x1])∧Below w'.heap.size w' w2))
  (S1:(∀w',Calls Tryz.prog 89 #[.agg #[.int .i64 p2,.int .i64 p3],.agg #[.int .i64 (a0+c0),.int .i64 (a1+c1)]] w' fun E w2=>E = .returned (.agg #[.int .i64 y0,.int .i64 y1])∧Below w'.heap.size w' w2))
  (ha:0≤a0∧a0≤a1∧a1≤1099511627776)
  (hc:0≤c0∧c0≤c1∧c1≤1099511627776)
  (hz:1≤a0+c0)
  : Calls Tryz.prog 22 #[.agg #[.int .i64 wv,.int .i64 ix,.int .i64 si],.slice pa n cap,.agg #[.int .i64 oi,.int .i64 ol]] w fun E w'=>E = .returned (.tuple #[.agg #[.int .i64 u0,.int .i64 u1,.int .i64 x0,.int .i64 x1,.int .i64 y0,.int .i64 y1],.int .i64 0])∧Below w.heap.size w w':=by
 have W0:IntKind.i64.wrap (a0+c0)=(a0+c0):=IntWalk.i64_in _ ⟨by omega,by omega⟩
 have W1:IntKind.i64.wrap (a1+c1)=(a1+c1):=IntWalk.i64_in _ ⟨by omega,by omega⟩
 have W2:IntKind.i64.wrap (a0-c1)=(a0-c1):=IntWalk.i64_in _ ⟨by omega,by omega⟩
 have W3:IntKind.i64.wrap ((a0-c1)*1048576)=((a0-c1)*1048576):=IntWalk.i64_in _ ⟨by omega,by omega⟩
 have W4:IntKind.i64.wrap (a0+c1)=(a0+c1):=IntWalk.i64_in _ ⟨by omega,by omega⟩
 have W5:IntKind.i64.wrap (a1-c0)=(a1-c0):=IntWalk.i64_in _ ⟨by omega,by omega⟩
 have W6:IntKind.i64.wrap ((a1-c0)*1048576)=((a1-c0)*1048576):=IntWalk.i64_in _ ⟨by omega,by omega⟩
 have W7:IntKind.i64.wrap (a1+c0)=(a1+c0):=IntWalk.i64_in _ ⟨by omega,by omega⟩
 have z1:¬a0+c0=0:=by omega
 have RF0:=Lib.hid RF0
 have RF1:=Lib.hid RF1
 have EN0:=Lib.hid EN0
 have EN1:=Lib.hid EN1
 have CJ:=Lib.hid CJ
 have TM:=Lib.hid TM
 have PO:=Lib.hid PO
 have FF:=Lib.hid FF
 have FC:=Lib.hid FC
 have CU:=Lib.hid CU
 have S0:=Lib.hid S0
 have S1:=Lib.hid S1
 go_enter Tryz.func22,Tryz.ntmps22
 go_wp2_with fail
 refine(rask_any _ _ _ _ _ _ _ _ _ _).mono ?_
 rintro e w1 ⟨rfl,A3⟩
 have Af:=A3.size
 (try simp at Af)
 have Bp:=bl5 A3 (w.heap.size)
 have An:=bl5 A3 (w.heap.size+1)
 have Ah:=bl5 A3 (w.heap.size+1+1)
 go_wp2_with fail
 refine(RF0.out _ blw).mono ?_
 rintro e w2 ⟨rfl,A4⟩
 have Ag:=A4.size
 (try simp at Ag)
 have Bq:=bl5 A4 (w.heap.size)
 have Ap:=bl5 A4 (w.heap.size+1)
 have Ai:=bl5 A4 (w.heap.size+1+1)
 go_wp2_with fail
 refine(rask_any _ _ _ _ _ _ _ _ _ _).mono ?_
 rintro e w3 ⟨rfl,A7⟩
 have Al:=A7.size
 (try simp at Al)
 have Ar:=bl5 A7 (w.heap.size+1+1)
 have Br:=bl5 A7 (w2.heap.size)
 go_wp2_with fail
 refine(RF1.out _ blw).mono ?_
 rintro e w4 ⟨rfl,A8⟩
 have Am:=A8.size
 (try simp at Am)
 have As:=bl5 A8 (w.heap.size+1+1)
 have Bs:=bl5 A8 (w2.heap.size)
 go_wp2_with fail
 refine calm_two 4 #[.int .i64 0,.int .i64 0] #[.int .i64 0,.int .i64 0] 32 32 _ _ rfl rfl (by kernel_rfl) (by kernel_rfl) (fun a w=>by kernel_rfl) (fun a w=>by kernel_rfl) fun hG => ?_
 have A5:=hG (w.heap.size+1+1) lto
 have Ac:=hG (w2.heap.size) lto
 have Ad:=hG (w4.heap.size) lto
 clear hG
 simp only[List.take_succ_cons,List.take_zero,List.drop_succ_cons,List.drop_zero]
 repeat (refine wpCalm_step (fun K hK => ?_);go_simp;first|(refine hK _ ?_;clear hK K)|(apply Exists.intro;refine⟨fun _ => ?_,hK _ ?_⟩;(first|(go_at_call 83;first|with_reducible exact cal_call EN0.out|with_reducible exact cal_call EN1.out));clear hK K))
 refine wpCalm_nil ?_
 intro B1 B2 w5 hN hM Ab
 obtain⟨A9,A1,Ca,Ch,Ck⟩:=hN
 obtain⟨_,A2,Cb,Ci,Cl⟩:=hM
 (try simp at A1 A2)
 have B0:¬B2=B1:=Ne.symm Ab
 clear A5 Ac Ad
 have Bj:=A9.size
 (try simp at Bj)
 have Bn:=bl5 A9 (w.heap.size+1+1)
 have Bt:=bl5 A9 (w2.heap.size)
 have Bu:=bl5 A9 (w4.heap.size)
 have Ax:¬B1=w.heap.size+1+1:=by first|omega|(simp at A1;omega)
 have Au:¬w.heap.size+1+1=B1:=by first|omega|(simp at A1;omega)
 have Bd:¬B1=w2.heap.size:=by first|omega|(simp at A1;omega)
 have B7:¬w2.heap.size=B1:=by first|omega|(simp at A1;omega)
 have Be:¬B1=w4.heap.size:=by first|omega|(simp at A1;omega)
 have B8:¬w4.heap.size=B1:=by first|omega|(simp at A1;omega)
 have Ay:¬B2=w.heap.size+1+1:=by first|omega|(simp at A2;omega)
 have Av:¬w.heap.size+1+1=B2:=by first|omega|(simp at A2;omega)
 have Bf:¬B2=w2.heap.size:=by first|omega|(simp at A2;omega)
 have B9:¬w2.heap.size=B2:=by first|omega|(simp at A2;omega)
 have Bg:¬B2=w4.heap.size:=by first|omega|(simp at A2;omega)
 have Ba:¬w4.heap.size=B2:=by first|omega|(simp at A2;omega)
 go_wp2_with fail
 refine calm_late 7 6 #[.int .i64 0,.int .i64 0,.int .i64 0] 151 _ _ _ rfl rfl rfl (by kernel_rfl) (by kernel_rfl) (by kernel_rfl) (fun _ _ _ _ h=>h) (fun a w=>by kernel_rfl) fun hG => ?_
 have A5:=hG (w.heap.size+1+1) lto
 have Ac:=hG (w2.heap.size) lto
 have Ad:=hG (w4.heap.size) lto
 have Aj:=hG (B1) lto
 have Ak:=hG (B2) lto
 clear hG
 simp only[List.take_succ_cons,List.take_zero,List.drop_succ_cons,List.drop_zero]
 repeat (refine wpCalm_step (fun K hK => ?_);go_simp;first|(refine hK _ ?_;clear hK K)|(apply Exists.intro;refine⟨fun _ => ?_,hK _ ?_⟩;(first|(go_at_call 85;with_reducible exact cal_call CJ.out)|(go_at_call 84;with_reducible exact cal_call TM.out));clear hK K))
 refine wpCalm_nil ?_
 intro B3 w6 hN
 obtain⟨A6,A0,Cc,Cj,Cm⟩:=hN
 (try simp at A0)
 clear A5 Ac Ad Aj Ak
 have Bk:=A6.size
 (try simp at Bk)
 have Bo:=bl5 A6 (w.heap.size+1+1)
 have Bv:=bl5 A6 (w2.heap.size)
 have Bw:=bl5 A6 (w4.heap.size)
 have Cf:=bl5 A6 (B1)
 have Cg:=bl5 A6 (B2)
 have Az:¬B3=w.heap.size+1+1:=by first|omega|(simp at A0;omega)
 have Aw:¬w.heap.size+1+1=B3:=by first|omega|(simp at A0;omega)
 have Bh:¬B3=w2.heap.size:=by first|omega|(simp at A0;omega)
 have Bb:¬w2.heap.size=B3:=by first|omega|(simp at A0;omega)
 have Bi:¬B3=w4.heap.size:=by first|omega|(simp at A0;omega)
 have Bc:¬w4.heap.size=B3:=by first|omega|(simp at A0;omega)
 have C6:¬B3=B1:=by first|omega|(simp at A0;omega)
 have C1:¬B1=B3:=by first|omega|(simp at A0;omega)
 have C7:¬B3=B2:=by first|omega|(simp at A0;omega)
 have C2:¬B2=B3:=by first|omega|(simp at A0;omega)
 go_wp2_with fail
 refine(PO.out _).mono ?_
 rintro e w7 ⟨rfl,B5⟩
 have Cy:=B5.size
 (try simp at Cy)
 have D1:=bl5 B5 (w.heap.size+1+1)
 have D2:=bl5 B5 (B1)
 have D3:=bl5 B5 (B2)
 have D9:=bl5 B5 (w6.heap.size)
 go_wp2_with fail
 refine calm_new 25 #[.int .i64 0,.int .i64 0] 32 _ rfl (by kernel_rfl) (by kernel_rfl) (fun a w=>by kernel_rfl) fun hG => ?_
 have A5:=hG (w.heap.size+1+1) lto
 have Aj:=hG (B1) lto
 have Ak:=hG (B2) lto
 have C8:=hG (w6.heap.size) lto
 have C9:=hG (w7.heap.size) lto
 clear hG
 simp only[List.take_succ_cons,List.take_zero,List.drop_succ_cons,List.drop_zero]
 repeat (refine wpCalm_step (fun K hK => ?_);go_simp;first|(refine hK _ ?_;clear hK K)|(apply Exists.intro;refine⟨fun _ => ?_,hK _ ?_⟩;(first|(go_at_call 33;with_reducible exact cal_same FF.out)|(go_at_call 88;with_reducible exact cal_same FC.out)|(go_at_call 87;with_reducible exact cal_call CU.out));clear hK K))
 refine wpCalm_nil ?_
 intro B4 w8 hN
 obtain⟨At,Aa,De,Df,Dg⟩:=hN
 (try simp at Aa)
 clear A5 Aj Ak C8 C9
 have Cz:=At.size
 (try simp at Cz)
 have D4:=bl5 At (w.heap.size+1+1)
 have D5:=bl5 At (B1)
 have D6:=bl5 At (B2)
 have Da:=bl5 At (w6.heap.size)
 have Db:=bl5 At (w7.heap.size)
 have Cr:¬B4=w.heap.size+1+1:=by first|omega|(simp at Aa;omega)
 have Co:¬w.heap.size+1+1=B4:=by first|omega|(simp at Aa;omega)
 have Cs:¬B4=B1:=by first|omega|(simp at Aa;omega)
 have Cp:¬B1=B4:=by first|omega|(simp at Aa;omega)
 have Ct:¬B4=B2:=by first|omega|(simp at Aa;omega)
 have Cq:¬B2=B4:=by first|omega|(simp at Aa;omega)
 have Cw:¬B4=w6.heap.size:=by first|omega|(simp at Aa;omega)
 have Cu:¬w6.heap.size=B4:=by first|omega|(simp at Aa;omega)
 have Cx:¬B4=w7.heap.size:=by first|omega|(simp at Aa;omega)
 have Cv:¬w7.heap.size=B4:=by first|omega|(simp at Aa;omega)
 go_wp2_with fail
 refine calm 10 (by kernel_rfl) (by kernel_rfl) fun hG => ?_
 have A5:=hG (w.heap.size+1+1) lto
 have C8:=hG (w6.heap.size) lto
 have C9:=hG (w7.heap.size) lto
 have Cn:=hG (B4) lto
 clear hG
 simp only[List.take_succ_cons,List.take_zero,List.drop_succ_cons,List.drop_zero]
 repeat (go_big_quiet_step (first|(go_at_call 89;first|with_reducible exact calm_call S0.out|with_reducible exact calm_call S1.out)))
 refine wpQuiet_nil ?_
 intro w9 B6
 clear A5 C8 C9 Cn
 have D0:=B6.size
 (try simp at D0)
 have D7:=bl5 B6 (w.heap.size+1+1)
 have Dc:=bl5 B6 (w6.heap.size)
 have Dd:=bl5 B6 (w7.heap.size)
 have D8:=bl5 B6 (B4)
 repeat' (first|go_values|go_skip|go_guarded|go_step|go_upon|(simp only[];go_simp))
 (with_reducible show bodyPost _ _ _ _ _ _);refine bodyPost_ret (by simp[results,Tryz.results22,go_sem, *];first|done|rfl) rfl ?_
 exact⟨rfl,blw⟩
theorem rreflected_to {wv ix si oi ol po:Int}{ls:List Box}{pa:Option Addr}{cap:Nat} (hA:AskOk (askF wv ix si po ls oi ol pa cap)) (w:World) (hr:Row pa ls w) (hpa:∀a,pa=some a→a.block<w.heap.size)
  (R:Res) (hR:ampR (askF wv ix si po ls oi ol pa cap) false=R) (w':World) (h:Below w.heap.size w w') :
  Calls Tryz.prog 81 #[.agg #[.int .i64 ix,.int .i64 si,.int .i64 si,.int .i64 po,.int .i64 wv,.int .i64 wv,.slice pa ls.length cap,.int .i64 oi,.int .i64 ol]] w' fun E w2 =>
   E = .returned (.tuple #[.agg #[.int .i64 R.a,.int .i64 R.b,.int .i64 R.c],.int .i64 R.q])∧Below w'.heap.size w' w2:=by
 have C:=rReflected_any _ hA w' (hr.bel h) (fun a ha=>Nat.lt_of_lt_of_le (hpa a ha) h.size)
 rw[hR]at C
 exact C
theorem rconj_to (R:Res) (h:Fine R) (w:World):Calls Tryz.prog 85 #[.agg #[.int .i64 R.a,.int .i64 R.b,.int .i64 R.c]] w fun E w' =>
  E = .returned (.agg #[.int .i64 (cj R).a,.int .i64 (cj R).b,.int .i64 (cj R).c])∧Below w.heap.size w w':=by
 have C:=rConj_any R.a R.b R.c w h.right.sh.2
 have e:cj R = .good R.a (-R.b) R.c:=by
  have r:=h.right
  have k:Right R.a (-R.b) R.c:=by unfold Right Fits at r ⊢;omega
  unfold cj conjM onOne
  rw[if_pos r]
  unfold fin
  rw[if_neg (by decide),if_pos k]
 rw[e,(quad_good _ _ _).1,(quad_good _ _ _).2.1,(quad_good _ _ _).2.2.1]
 exact C
theorem rtimes_to (R S:Res) (hR:Fine R) (hS:Fine S) (w:World) :
  Calls Tryz.prog 84 #[.agg #[.int .i64 R.a,.int .i64 R.b,.int .i64 R.c],.agg #[.int .i64 S.a,.int .i64 S.b,.int .i64 S.c]] w fun E w' =>
   E = .returned (.tuple #[.agg #[.int .i64 (ti R S).a,.int .i64 (ti R S).b,.int .i64 (ti R S).c],.int .i64 (ti R S).q])∧Below w.heap.size w w':=by
 have C:=rTimes_any R.a R.b R.c S.a S.b S.c w hR.right hS.right
 rw[show ti R S=_ from by unfold ti timesM onTwo;rw[if_pos hR.right,if_pos hS.right]]
 rw[outR_quad]at C
 exact C
theorem raskF_ok {wv ix si oi ol:Int}{ls:List Box}{pa:Option Addr}{cap:Nat} (hs:setQ wv ix si=0) (hb:checkQ ls=0) (ho:onQ oi ol=0) (po:Int) (hp:po=0∨po=1):AskOk (askF wv ix si po ls oi ol pa cap):=by
 obtain⟨s1,s2,s3⟩:=setQ_zero hs
 obtain⟨b1,b2,b3⟩:=checkQ_zero hb
 obtain⟨o1,o2⟩:=onQ_zero ho
 exact⟨s2.1,s2.2,s3.1,Int.le_refl _,s3.2,hp,s1.1,Int.le_refl _,s1.2,b1,Nat.le_trans b3 (by decide),o1.1,o1.2,o2.1,o2.2⟩
set_option maxHeartbeats 2000000 in
theorem rpred_any (wv ix si oi ol:Int) (ls:List Box) (pa:Option Addr) (cap:Nat) (hs:setQ wv ix si=0) (hb:checkQ ls=0) (ho:onQ oi ol=0) (w:World) (hr:Row pa ls w) :
  Calls Tryz.prog 22 #[.agg #[.int .i64 wv,.int .i64 ix,.int .i64 si],.slice pa ls.length cap,.agg #[.int .i64 oi,.int .i64 ol]] w fun E w' =>
   E = .returned (.tuple #[(seenB wv ix si ls oi ol).val,.int .i64 (seenB wv ix si ls oi ol).q])∧Below w.heap.size w w':=by
 have hpa:∀a,pa=some a→a.block<w.heap.size:=by
  intro a ha
  have hl:=(checkQ_zero hb).2.1
  obtain⟨a',ha',hlt,_⟩:=hr.get 0 ls[0] (List.getElem?_eq_getElem (by omega))
  rw[ha]at ha'
  cases ha'
  rw[block_add]at hlt
  exact hlt
 have hA0:=raskF_ok (pa:=pa) (cap:=cap) hs hb ho 0 (.inl rfl)
 have hA1:=raskF_ok (pa:=pa) (cap:=cap) hs hb ho 1 (.inr rfl)
 rw[← seenB_at wv ix si ls oi ol pa cap]
 have f0:=fine_amp (askF wv ix si 0 ls oi ol pa cap) false
 have f1:=fine_amp (askF wv ix si 1 ls oi ol pa cap) false
 have RF0:=rreflected_to hA0 w hr hpa _ rfl
 have RF1:=rreflected_to hA1 w hr hpa _ rfl
 generalize ampR (askF wv ix si 0 ls oi ol pa cap) false=R0 at *
 generalize ampR (askF wv ix si 1 ls oi ol pa cap) false=R1 at *
 by_cases q0:R0.q=0
 ·have RF0':=RF0
  rw[q0]at RF0'
  by_cases q1:R1.q=0
  ·have RF1':=RF1
   rw[q1]at RF1'
   have TM:=rtimes_to R1 (cj R0) f1 (fine_cj R0)
   have fM:=fine_ti R1 (cj R0)
   by_cases q2:(ti R1 (cj R0)).q=0
   ·have TM':=TM
    rw[q2]at TM'
    have b0:=enR_le f0
    have b1:=enR_le f1
    have rM:=fM.right
    by_cases q3:enRL R0+enRL R1=0
    ·rw[seen_e3 q0 q1 q2 q3]
     exact rpred_e3 ix si wv oi ol ls.length cap pa R0 R1 (cj R0) (ti R1 (cj R0)) _ _ _ _ w RF0' RF1' (fun w=>renergy_any R0 w f0) (fun w=>renergy_any R1 w f1) (rconj_to R0 f0) TM' b0 b1 q3
    ·rw[seen_ok q0 q1 q2 q3]
     unfold seenM
     have c0:loN (enRL R0) (enRH R1)=(enRL R0-enRH R1)*1048576/(enRL R0+enRH R1):=by unfold loN;rfl
     have c1:hiN (enRH R0) (enRL R1) = -(-((enRH R0-enRL R1)*1048576)/(enRH R0+enRL R1)):=by unfold hiN cdv;rfl
     obtain⟨⟨x1,x2,y1,y2⟩,r0,r1⟩:=rM
     exact rpred_ok ix si wv oi ol ls.length cap pa R0 R1 (cj R0) (ti R1 (cj R0)) _ _ _ _ _ _ _ _ _ _ _ _ _ _ _ _ w RF0' RF1' (fun w=>renergy_any R0 w f0) (fun w=>renergy_any R1 w f1) (rconj_to R0 f0) TM'
      (fun w=>rParts_yes _ _ _ w fM.right)
      (fun w=>bFloor_any _ _ w (by omega) (by omega) (by omega) (by omega)) (fun w=>bCeil_any _ _ w (by omega) (by omega) (by omega) (by omega))
      (fun w=>by rw[c0,c1];exact r7cut_any _ _ w)
      (fun w=>shared_any _ _ _ _ w (by omega) (by omega) (by omega) (by omega) (by omega) (by omega)) (fun w=>shared_any _ _ _ _ w (by omega) (by omega) (by omega) (by omega) (by omega) (by omega)) b0 b1 (by omega)
   ·rw[seen_e2 q0 q1 q2]
    exact rpred_e2 ix si wv oi ol ls.length cap pa R0 R1 (cj R0) (ti R1 (cj R0)) _ _ _ _ w RF0' RF1' (fun w=>renergy_any R0 w f0) (fun w=>renergy_any R1 w f1) (rconj_to R0 f0) TM q2
  ·rw[seen_e1 q0 q1]
   exact rpred_e1 ix si wv oi ol ls.length cap pa R0 R1 w RF0' RF1 q1
 ·rw[seen_e0 q0]
  exact rpred_e0 ix si wv oi ol ls.length cap pa R0 w RF0 q0
end Go.Proofs.YtjbfaaolfonmaaaGreat
