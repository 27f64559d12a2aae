/- Joined: RLaw RCalc RBox RIndex RNormal RSquare RParts RNorm RAdm. -/
import Derived.Test.YticobgianbecpaaGreatDoorKMed
import Derived.Test.YticobgianbecpaaGreatDoorKLight
import Derived.Deep.RegionHeld3
import Derived.Test.YticobgianbecpaaGreatDoorKFrac
namespace Go.Proofs.YticobgianbecpaaGreatDoor
open Go.RowKit
theorem cdv_up {n d:Int} (h:1≤d) : -(-n/d)=up n d:=by
 unfold up
 have h1:=Int.mul_ediv_add_emod (-n) d
 have h2:=Int.emod_nonneg (-n) (show d≠0 by omega)
 have h3:=Int.emod_lt_of_pos (-n) (show 0<d by omega)
 generalize -n/d=k at *
 symm
 refine(Int.ediv_emod_unique (a:=n+d-1) (b:=d) (r:=d-1-(-n)%d) (q := -k) (by omega)).2 ⟨?_,by omega,by omega⟩ |>.1
 have:d * -k = -(d*k):=by grind
 omega
theorem res_bad_q (q:Int):(Res.bad q).q=q:=(quad_bad q).2.2.2
theorem after_bad (e:Int) (R:Res) (h:e≠0):(after e R).q=e:=by rw[after_err R h];exact res_bad_q e
theorem after_ok {e:Int}{R:Res} (h:(after e R).q=0):e=0∧R.q=0:=by
 by_cases he:e=0
 ·subst he;rw[after_zero]at h;exact⟨rfl,h⟩
 ·rw[after_bad e R he]at h;exact absurd h he
theorem idx_bad {e:Int}{b:Box} (h:e≠0):idxR e b = .bad e:=by
 unfold idxR
 simp only
 split
 ·rw[after_err _ h]
 ·rw[after_err _ h,res_bad_q,after_err _ h,res_bad_q,after_err _ h,res_bad_q,after_err _ h]
theorem tu_right {k:Res} (h:Fine k) (_hq:k.q=0):tu k = .good (tuX (qu 1) k.a k.b) (tuY (qu 1) k.a k.b) k.c∧Right (tuX (qu 1) k.a k.b) (tuY (qu 1) k.a k.b) k.c:=by
 have hr:=h.right
 have h1:inPart 1:=by unfold inPart;omega
 have h2:qu 1=1:=by decide
 have h3:Right (tuX (qu 1) k.a k.b) (tuY (qu 1) k.a k.b) k.c:=by
  rw[h2,(tu1 _ _).1,(tu1 _ _).2]
  unfold Right Fits at hr ⊢
  omega
 refine⟨?_,h3⟩
 unfold tu turnedM onOne
 rw[if_pos hr,if_pos h1]
 unfold fin
 rw[if_neg (by omega),if_pos h3]
@[irreducible] def nnR (e:Int) (A:Ask) (b:Box):Res:=if (nsqR e A b).q=0 then ti (idxR e b) (idxR e b)else noneR
theorem fine_nn (e:Int) (A:Ask) (b:Box):Fine (nnR e A b):=by
 unfold nnR
 split
 ·exact fine_ti _ _
 ·exact fine_noneR
theorem nor_ok {e:Int}{A:Ask}{b:Box} (h:(norR e A b).q=0):e=0∧(nsqR e A b).q=0∧(idxR e b).q=0:=by
 unfold norR at h
 have h1:=(after_ok h).1
 refine⟨?_,h1,?_⟩
 all_goals
  unfold nsqR at h1
  have h2:=(after_ok h1).1
  have h3:=(after_ok h2).1
  have h4:=(after_ok h3).1
  have h5:=(after_ok h4).1
 ·by_cases he:e=0
  ·exact he
  ·rw[idx_bad he,res_bad_q]at h5;exact absurd h5 he
 ·exact h5
theorem adm_ref {e:Int}{A:Ask}{b:Box} (hp:¬A.po=0):admR e A b=after (norR e A b).q (qt (nnR e A b) (norR e A b)):=by
 unfold admR
 simp only
 rw[if_neg hp]
 by_cases hq:(norR e A b).q=0
 ·obtain⟨he,hs,hn⟩:=nor_ok hq
  subst he
  rw[hq,after_zero,hn,after_zero]
  unfold nnR
  rw[if_pos hs]
  have:(ti (idxR 0 b) (idxR 0 b)).q=0:=by
   unfold nsqR at hs
   have h2:=(after_ok hs).1
   have h3:=(after_ok h2).1
   have h4:=(after_ok h3).2
   exact h4
  rw[this,after_zero]
 ·rw[idx_bad hq,res_bad_q,after_err _ hq,res_bad_q,after_err _ hq,after_err _ hq]
theorem adm_refs {e:Int}{A:Ask}{b:Box} (hp:A.po=0):admR e A b=norR e A b:=by unfold admR;simp only;rw[if_pos hp]
theorem half_q:halfR.q=0:=by unfold halfR;exact(quad_good _ _ _).2.2.2
theorem mat_ref {e:Int}{y g p u n c v w:Res} (hp:Is p (after e (pl oneR g))) (hu:Is u (after p.q (ti p halfR))) (hn:Is n (after u.q (mi oneR g))) (hc:Is c (after n.q (ti n halfR))) (hv:Is v (after c.q (qt c y))) (hw:Is w (after v.q (ti c y))) :
  matR e y g=(⟨u,v,w,u⟩,w.q):=by
 by_cases he:e=0
 ·subst he
  cases hp;cases hu;cases hn;cases hc;cases hv;cases hw
  unfold matR
  simp only[after_zero,half_q]
 ·cases hp
  unfold matR
  simp only
  rw[after_err halfR he,res_bad_q,after_err _ he,res_bad_q,after_err _ he,res_bad_q,after_err _ he,res_bad_q,after_err _ he,res_bad_q,after_err _ he,res_bad_q,after_err _ he,res_bad_q]
  have e1:u = .bad e:=by rw[hu.out,after_bad _ _ he,after_err _ he]
  have e2:n = .bad e:=by rw[hn.out,e1,res_bad_q,after_err _ he]
  have e3:c = .bad e:=by rw[hc.out,e2,res_bad_q,after_err _ he]
  have e4:v = .bad e:=by rw[hv.out,e3,res_bad_q,after_err _ he]
  have e5:w = .bad e:=by rw[hw.out,e4,res_bad_q,after_err _ he]
  rw[e1,e4,e5,res_bad_q]
end Go.Proofs.YticobgianbecpaaGreatDoor
namespace Go.Proofs.YticobgianbecpaaGreatDoor
open Go.RowKit
abbrev RGives (f:FuncId) (args:Array Value) (B:Nat) (e:Int) (T:Res):Prop:=∀w,St B e w→Calls Tryz.prog f args w fun E w' =>
 E = .returned (.agg #[.int .i64 T.a,.int .i64 T.b,.int .i64 T.c])∧Trn B T.q w w'
theorem RGives.to {f:FuncId}{args:Array Value}{B:Nat}{e:Int}{R T:Res} (g:RGives f args B e T) (h:Is R T):RGives f args B e R:=by cases h;exact g
abbrev RCl (f:FuncId) (args:Array Value) (T:Res):Prop:=∀w,Calls Tryz.prog f args w fun E w'=>E = .returned (.tuple #[.agg #[.int .i64 T.a,.int .i64 T.b,.int .i64 T.c],.int .i64 T.q])∧Below w.heap.size w w'
theorem keep_no (B:Nat) (e x y r q:Int) (he:e≠0) (w:World) (A1:St B e w) :
  Calls Tryz.prog 119 #[.pointer (some ⟨B,0,none⟩),.agg #[.int .i64 x,.int .i64 y,.int .i64 r],.int .i64 q] w fun E w' =>
   E = .returned (.agg #[.int .i64 0,.int .i64 0,.int .i64 0])∧Trn B e w w':=by
 have he':(e != 0)=true:=by simpa using he
 have Ar:=A1.cell
 have As:=A1.free
 have Ak:=A1.lt
 have B4:=own5 Ak
 go_enter Tryz.func119,Tryz.ntmps119
 repeat' (first|go_values|go_skip|go_guarded|go_step|go_upon|(simp only[];go_simp))
 refine bodyPost_ret (by simp[results,Tryz.results119,go_sem, *];first|done|rfl) rfl ?_
 exact⟨rfl,trw⟩
theorem keep_ok (B:Nat) (x y r:Int) (w:World) (A1:St B 0 w) :
  Calls Tryz.prog 119 #[.pointer (some ⟨B,0,none⟩),.agg #[.int .i64 x,.int .i64 y,.int .i64 r],.int .i64 0] w fun E w' =>
   E = .returned (.agg #[.int .i64 x,.int .i64 y,.int .i64 r])∧Trn B 0 w w':=by
 have Ar:=A1.cell
 have As:=A1.free
 have Ak:=A1.lt
 have B4:=own5 Ak
 go_enter Tryz.func119,Tryz.ntmps119
 repeat' (first|go_values|go_skip|go_guarded|go_step|go_upon|(simp only[];go_simp))
 refine bodyPost_ret (by simp[results,Tryz.results119,go_sem, *];first|done|rfl) rfl ?_
 exact⟨rfl,trw⟩
theorem keep_bad (B:Nat) (x y r q:Int) (hq:q≠0) (w:World) (A1:St B 0 w) :
  Calls Tryz.prog 119 #[.pointer (some ⟨B,0,none⟩),.agg #[.int .i64 x,.int .i64 y,.int .i64 r],.int .i64 q] w fun E w' =>
   E = .returned (.agg #[.int .i64 0,.int .i64 0,.int .i64 0])∧Trn B q w w':=by
 have he':(q != 0)=true:=by simpa using hq
 have Ar:=A1.cell
 have As:=A1.free
 have Ak:=A1.lt
 have B4:=own5 Ak
 go_enter Tryz.func119,Tryz.ntmps119
 repeat' (first|go_values|go_skip|go_guarded|go_step|go_upon|(simp only[];go_simp))
 refine bodyPost_ret (by simp[results,Tryz.results119,go_sem, *];first|done|rfl) rfl ?_
 exact⟨rfl,trw⟩
theorem keep_any (B:Nat) (e:Int) (R:Res) (hR:Fine R) :
  RGives 119 #[.pointer (some ⟨B,0,none⟩),.agg #[.int .i64 R.a,.int .i64 R.b,.int .i64 R.c],.int .i64 R.q] B e (after e R):=by
 intro w A1
 by_cases he:e=0
 ·subst he
  rw[after_zero]
  by_cases hq:R.q=0
  ·rw[hq];exact keep_ok B _ _ _ w A1
  ·have h:=hR.zero hq
   obtain⟨h1,h2,h3,h4⟩:=quad_bad R.q
   have z:R.a=0∧R.b=0∧R.c=0:=⟨by rw[h];exact h1,by rw[h];exact h2,by rw[h];exact h3⟩
   have k:=keep_bad B R.a R.b R.c R.q hq w A1
   rw[z.1,z.2.1,z.2.2]at k ⊢
   exact k
 ·rw[after_err R he]
  obtain⟨h1,h2,h3,h4⟩:=quad_bad e
  rw[h1,h2,h3,h4]
  exact keep_no B e _ _ _ _ he w A1
set_option maxHeartbeats 1000000 in
theorem r_plus (B:Nat) (e:Int) (R S:Res) (hR:Fine R) (hS:Fine S) :
  RGives 84 #[.pointer (some ⟨B,0,none⟩),.agg #[.int .i64 R.a,.int .i64 R.b,.int .i64 R.c],.agg #[.int .i64 S.a,.int .i64 S.b,.int .i64 S.c]] B e (after e (pl R S)):=by
 intro w A1
 by_cases he:e=0
 ·subst he
  have OP:RCl 131 #[.agg #[.int .i64 R.a,.int .i64 R.b,.int .i64 R.c],.agg #[.int .i64 S.a,.int .i64 S.b,.int .i64 S.c]] (pl R S):=by
   intro w
   have:=rPlus_any R.a R.b R.c S.a S.b S.c w hR.right hS.right
   rw[show pl R S=_ from by unfold pl plusM onTwo;rw[if_pos hR.right,if_pos hS.right]]
   rw[outR_quad]at this
   exact this
  have KE:=fun w A1=>keep_any B 0 (pl R S) (fine_pl R S) w A1
  generalize after 0 (pl R S)=T at *
  generalize pl R S=U at *
  generalize R.a=x at *
  generalize R.b=y at *
  generalize R.c=r at *
  generalize S.a=x' at *
  generalize S.b=y' at *
  generalize S.c=r' at *
  have OP:=Lib.hid OP
  have KE:=Lib.hid KE
  clear hR hS
  have Ar:=A1.cell
  have As:=A1.free
  have Ak:=A1.lt
  have B4:=own5 Ak
  go_enter Tryz.func84,Tryz.ntmps84
  go_wp2_with fail
  refine(OP.out _).mono ?_
  rintro e w1 ⟨rfl,A3⟩
  have A5:=A3.size
  (try simp at A5)
  have Ae:=bl5 A3 (w.heap.size+1+1)
  have A2:=St.bel (St.to A1 smw) A3
  have At:=A2.cell
  have Au:=A2.free
  have Aq:=A2.lt
  have Av:=own5 Aq
  (try clear Ar As B4)
  go_wp2_with fail
  refine(KE.out _ (St.to A2 smw)).mono ?_
  rintro e w2 ⟨rfl,A0⟩
  have A8:=A0.size_le
  (try simp at A8)
  have Aj:=tn5 A0 (w.heap.size+1+1)
  have Ac:=St.turn (St.to A2 smw) A0
  have Bx:=Ac.cell
  have By:=Ac.free
  have Ax:=Ac.lt
  have C1:=own5 Ax
  (try clear At Au Av)
  repeat' (first|go_values|go_skip|go_guarded|go_step|go_upon|(simp only[];go_simp))
  refine bodyPost_ret (by simp[results,Tryz.results84,go_sem, *];first|done|rfl) rfl ?_
  exact⟨rfl,trw⟩
 ·rw[after_err _ he]
  obtain⟨h1,h2,h3,h4⟩:=quad_bad e
  rw[h1,h2,h3,h4]
  clear h1 h2 h3 h4
  have he':(e != 0)=true:=by simpa using he
  have Ar:=A1.cell
  have As:=A1.free
  have Ak:=A1.lt
  have B4:=own5 Ak
  go_enter Tryz.func84,Tryz.ntmps84
  repeat' (first|go_values|go_skip|go_guarded|go_step|go_upon|(simp only[];go_simp))
  refine bodyPost_ret (by simp[results,Tryz.results84,go_sem, *];first|done|rfl) rfl ?_
  exact⟨rfl,trw⟩
set_option maxHeartbeats 1000000 in
theorem r_minus (B:Nat) (e:Int) (R S:Res) (hR:Fine R) (hS:Fine S) :
  RGives 90 #[.pointer (some ⟨B,0,none⟩),.agg #[.int .i64 R.a,.int .i64 R.b,.int .i64 R.c],.agg #[.int .i64 S.a,.int .i64 S.b,.int .i64 S.c]] B e (after e (mi R S)):=by
 intro w A1
 by_cases he:e=0
 ·subst he
  have OP:RCl 137 #[.agg #[.int .i64 R.a,.int .i64 R.b,.int .i64 R.c],.agg #[.int .i64 S.a,.int .i64 S.b,.int .i64 S.c]] (mi R S):=by
   intro w
   have:=rMinus_any R.a R.b R.c S.a S.b S.c w hR.right hS.right
   rw[show mi R S=_ from by unfold mi minusM onTwo;rw[if_pos hR.right,if_pos hS.right]]
   rw[outR_quad]at this
   exact this
  have KE:=fun w A1=>keep_any B 0 (mi R S) (fine_mi R S) w A1
  generalize after 0 (mi R S)=T at *
  generalize mi R S=U at *
  generalize R.a=x at *
  generalize R.b=y at *
  generalize R.c=r at *
  generalize S.a=x' at *
  generalize S.b=y' at *
  generalize S.c=r' at *
  have OP:=Lib.hid OP
  have KE:=Lib.hid KE
  clear hR hS
  have Ar:=A1.cell
  have As:=A1.free
  have Ak:=A1.lt
  have B4:=own5 Ak
  go_enter Tryz.func90,Tryz.ntmps90
  go_wp2_with fail
  refine(OP.out _).mono ?_
  rintro e w1 ⟨rfl,A3⟩
  have A5:=A3.size
  (try simp at A5)
  have Ae:=bl5 A3 (w.heap.size+1+1)
  have A2:=St.bel (St.to A1 smw) A3
  have At:=A2.cell
  have Au:=A2.free
  have Aq:=A2.lt
  have Av:=own5 Aq
  (try clear Ar As B4)
  go_wp2_with fail
  refine(KE.out _ (St.to A2 smw)).mono ?_
  rintro e w2 ⟨rfl,A0⟩
  have A8:=A0.size_le
  (try simp at A8)
  have Aj:=tn5 A0 (w.heap.size+1+1)
  have Ac:=St.turn (St.to A2 smw) A0
  have Bx:=Ac.cell
  have By:=Ac.free
  have Ax:=Ac.lt
  have C1:=own5 Ax
  (try clear At Au Av)
  repeat' (first|go_values|go_skip|go_guarded|go_step|go_upon|(simp only[];go_simp))
  refine bodyPost_ret (by simp[results,Tryz.results90,go_sem, *];first|done|rfl) rfl ?_
  exact⟨rfl,trw⟩
 ·rw[after_err _ he]
  obtain⟨h1,h2,h3,h4⟩:=quad_bad e
  rw[h1,h2,h3,h4]
  clear h1 h2 h3 h4
  have he':(e != 0)=true:=by simpa using he
  have Ar:=A1.cell
  have As:=A1.free
  have Ak:=A1.lt
  have B4:=own5 Ak
  go_enter Tryz.func90,Tryz.ntmps90
  repeat' (first|go_values|go_skip|go_guarded|go_step|go_upon|(simp only[];go_simp))
  refine bodyPost_ret (by simp[results,Tryz.results90,go_sem, *];first|done|rfl) rfl ?_
  exact⟨rfl,trw⟩
set_option maxHeartbeats 1000000 in
theorem r_times (B:Nat) (e:Int) (R S:Res) (hR:Fine R) (hS:Fine S) :
  RGives 87 #[.pointer (some ⟨B,0,none⟩),.agg #[.int .i64 R.a,.int .i64 R.b,.int .i64 R.c],.agg #[.int .i64 S.a,.int .i64 S.b,.int .i64 S.c]] B e (after e (ti R S)):=by
 intro w A1
 by_cases he:e=0
 ·subst he
  have OP:RCl 135 #[.agg #[.int .i64 R.a,.int .i64 R.b,.int .i64 R.c],.agg #[.int .i64 S.a,.int .i64 S.b,.int .i64 S.c]] (ti R S):=by
   intro w
   have:=rTimes_any R.a R.b R.c S.a S.b S.c w hR.right hS.right
   rw[show ti R S=_ from by unfold ti timesM onTwo;rw[if_pos hR.right,if_pos hS.right]]
   rw[outR_quad]at this
   exact this
  have KE:=fun w A1=>keep_any B 0 (ti R S) (fine_ti R S) w A1
  generalize after 0 (ti R S)=T at *
  generalize ti R S=U at *
  generalize R.a=x at *
  generalize R.b=y at *
  generalize R.c=r at *
  generalize S.a=x' at *
  generalize S.b=y' at *
  generalize S.c=r' at *
  have OP:=Lib.hid OP
  have KE:=Lib.hid KE
  clear hR hS
  have Ar:=A1.cell
  have As:=A1.free
  have Ak:=A1.lt
  have B4:=own5 Ak
  go_enter Tryz.func87,Tryz.ntmps87
  go_wp2_with fail
  refine(OP.out _).mono ?_
  rintro e w1 ⟨rfl,A3⟩
  have A5:=A3.size
  (try simp at A5)
  have Ae:=bl5 A3 (w.heap.size+1+1)
  have A2:=St.bel (St.to A1 smw) A3
  have At:=A2.cell
  have Au:=A2.free
  have Aq:=A2.lt
  have Av:=own5 Aq
  (try clear Ar As B4)
  go_wp2_with fail
  refine(KE.out _ (St.to A2 smw)).mono ?_
  rintro e w2 ⟨rfl,A0⟩
  have A8:=A0.size_le
  (try simp at A8)
  have Aj:=tn5 A0 (w.heap.size+1+1)
  have Ac:=St.turn (St.to A2 smw) A0
  have Bx:=Ac.cell
  have By:=Ac.free
  have Ax:=Ac.lt
  have C1:=own5 Ax
  (try clear At Au Av)
  repeat' (first|go_values|go_skip|go_guarded|go_step|go_upon|(simp only[];go_simp))
  refine bodyPost_ret (by simp[results,Tryz.results87,go_sem, *];first|done|rfl) rfl ?_
  exact⟨rfl,trw⟩
 ·rw[after_err _ he]
  obtain⟨h1,h2,h3,h4⟩:=quad_bad e
  rw[h1,h2,h3,h4]
  clear h1 h2 h3 h4
  have he':(e != 0)=true:=by simpa using he
  have Ar:=A1.cell
  have As:=A1.free
  have Ak:=A1.lt
  have B4:=own5 Ak
  go_enter Tryz.func87,Tryz.ntmps87
  repeat' (first|go_values|go_skip|go_guarded|go_step|go_upon|(simp only[];go_simp))
  refine bodyPost_ret (by simp[results,Tryz.results87,go_sem, *];first|done|rfl) rfl ?_
  exact⟨rfl,trw⟩
set_option maxHeartbeats 1000000 in
theorem r_by (B:Nat) (e:Int) (R S:Res) (hR:Fine R) (hS:Fine S) :
  RGives 88 #[.pointer (some ⟨B,0,none⟩),.agg #[.int .i64 R.a,.int .i64 R.b,.int .i64 R.c],.agg #[.int .i64 S.a,.int .i64 S.b,.int .i64 S.c]] B e (after e (qt R S)):=by
 intro w A1
 by_cases he:e=0
 ·subst he
  have OP:RCl 136 #[.agg #[.int .i64 R.a,.int .i64 R.b,.int .i64 R.c],.agg #[.int .i64 S.a,.int .i64 S.b,.int .i64 S.c]] (qt R S):=by
   intro w
   have:=rQuotient_any R.a R.b R.c S.a S.b S.c w hR.right hS.right
   rw[show qt R S=_ from by unfold qt quotM onTwo;rw[if_pos hR.right,if_pos hS.right]]
   rw[outR_quad]at this
   exact this
  have KE:=fun w A1=>keep_any B 0 (qt R S) (fine_qt R S) w A1
  generalize after 0 (qt R S)=T at *
  generalize qt R S=U at *
  generalize R.a=x at *
  generalize R.b=y at *
  generalize R.c=r at *
  generalize S.a=x' at *
  generalize S.b=y' at *
  generalize S.c=r' at *
  have OP:=Lib.hid OP
  have KE:=Lib.hid KE
  clear hR hS
  have Ar:=A1.cell
  have As:=A1.free
  have Ak:=A1.lt
  have B4:=own5 Ak
  go_enter Tryz.func88,Tryz.ntmps88
  go_wp2_with fail
  refine(OP.out _).mono ?_
  rintro e w1 ⟨rfl,A3⟩
  have A5:=A3.size
  (try simp at A5)
  have Ae:=bl5 A3 (w.heap.size+1+1)
  have A2:=St.bel (St.to A1 smw) A3
  have At:=A2.cell
  have Au:=A2.free
  have Aq:=A2.lt
  have Av:=own5 Aq
  (try clear Ar As B4)
  go_wp2_with fail
  refine(KE.out _ (St.to A2 smw)).mono ?_
  rintro e w2 ⟨rfl,A0⟩
  have A8:=A0.size_le
  (try simp at A8)
  have Aj:=tn5 A0 (w.heap.size+1+1)
  have Ac:=St.turn (St.to A2 smw) A0
  have Bx:=Ac.cell
  have By:=Ac.free
  have Ax:=Ac.lt
  have C1:=own5 Ax
  (try clear At Au Av)
  repeat' (first|go_values|go_skip|go_guarded|go_step|go_upon|(simp only[];go_simp))
  refine bodyPost_ret (by simp[results,Tryz.results88,go_sem, *];first|done|rfl) rfl ?_
  exact⟨rfl,trw⟩
 ·rw[after_err _ he]
  obtain⟨h1,h2,h3,h4⟩:=quad_bad e
  rw[h1,h2,h3,h4]
  clear h1 h2 h3 h4
  have he':(e != 0)=true:=by simpa using he
  have Ar:=A1.cell
  have As:=A1.free
  have Ak:=A1.lt
  have B4:=own5 Ak
  go_enter Tryz.func88,Tryz.ntmps88
  repeat' (first|go_values|go_skip|go_guarded|go_step|go_upon|(simp only[];go_simp))
  refine bodyPost_ret (by simp[results,Tryz.results88,go_sem, *];first|done|rfl) rfl ?_
  exact⟨rfl,trw⟩
theorem r_one (w:World):Calls Tryz.prog 85 #[] w fun E w'=>E = .returned (.agg #[.int .i64 oneR.a,.int .i64 oneR.b,.int .i64 oneR.c])∧Below w.heap.size w w':=by
 have e1:oneR.a=1048576∧oneR.b=0∧oneR.c=0:=by unfold oneR;exact⟨(quad_good _ _ _).1,(quad_good _ _ _).2.1,(quad_good _ _ _).2.2.1⟩
 rw[e1.1,e1.2.1,e1.2.2]
 clear e1
 go_enter Tryz.func85,Tryz.ntmps85
 go_wp2
 refine bodyPost_ret (by simp[results,Tryz.results85,go_sem, *];first|done|rfl) rfl ?_
 exact⟨rfl,blw⟩
theorem r_half (w:World):Calls Tryz.prog 251 #[] w fun E w'=>E = .returned (.agg #[.int .i64 halfR.a,.int .i64 halfR.b,.int .i64 halfR.c])∧Below w.heap.size w w':=by
 have e1:halfR.a=524288∧halfR.b=0∧halfR.c=0:=by unfold halfR;exact⟨(quad_good _ _ _).1,(quad_good _ _ _).2.1,(quad_good _ _ _).2.2.1⟩
 rw[e1.1,e1.2.1,e1.2.2]
 clear e1
 go_enter Tryz.func251,Tryz.ntmps251
 go_wp2
 refine bodyPost_ret (by simp[results,Tryz.results251,go_sem, *];first|done|rfl) rfl ?_
 exact⟨rfl,blw⟩
structure Rt (B:Nat) (e:Int) (A:Ask) (w:World):Prop where
 st:St B e w
 row:Row A.pa A.ls w
 sep:∀a,A.pa=some a→0<A.ls.length→a.block≠B
theorem Row.trn0 {p:Option Addr}{ls:List Box}{w w':World}{B:Nat}{s:Int} (h:Row p ls w) (k:Trn B s w w') (hB:∀a,p=some a→0<ls.length→a.block≠B):Row p ls w' :=
 ⟨fun j b hj=>by obtain⟨a,h1,h2,h3⟩:=h.get j b hj;exact⟨a,h1,Nat.lt_of_lt_of_le h2 k.size_le,h3.trn k h2 (by rw[block_add];exact hB a h1 (by have:=(List.getElem?_eq_some_iff.1 hj).1;omega))⟩⟩
theorem Row.blk {p:Option Addr}{ls:List Box}{w:World} (h:Row p ls w):∀a,p=some a→0<ls.length→a.block<w.heap.size:=fun a ha hl=>by
 obtain⟨a',h1,h2,_⟩:=h.get 0 ls[0] (List.getElem?_eq_getElem hl)
 rw[ha]at h1
 cases h1
 rw[block_add]at h2
 exact h2
theorem Rt.turn {B:Nat}{e s:Int}{A:Ask}{w w':World} (h:Rt B e A w) (t:Trn B s w w'):Rt B s A w':=⟨h.st.turn t,h.row.trn0 t h.sep,h.sep⟩
theorem Rt.bel {B:Nat}{e:Int}{A:Ask}{w w':World} (h:Rt B e A w) (b:Below w.heap.size w w'):Rt B e A w':=h.turn (Trn.of_bel h.st.cell b)
theorem Rt.gt {B:Nat}{e:Int}{A:Ask}{W:World} (h:Rt B e A W) (s:Int) (p:Regrown):Rt B s A (gt W B s p):=h.turn (trn_gt W B s p)
abbrev Rk (B:Nat) (e:Int) (A:Ask) (w0 w:World):Prop:=Trn B e w0 w∧Rt B e A w∧St B e w∧(w0.heap.size≤w.heap.size∧B<w.heap.size)∧(¬B=w.heap.size∧¬w.heap.size=B) ∧
 w.cell? ⟨B,0,none⟩=some (.int .i64 e)∧w.frozen? ⟨B,0,none⟩=false∧Own3 B w.heap.size
theorem rkt {B:Nat}{e s:Int}{A:Ask}{w0 w:World} (L:Rt B e A w0) (T:Trn B s w0 w):Rk B s A w0 w :=
 have l:=L.turn T
 have o:=own5 l.st.lt
 ⟨T,l,l.st,⟨T.le,l.st.lt⟩,⟨o.1,o.2.1⟩,l.st.cell,l.st.free,o.2.2⟩
theorem rkx {B:Nat}{e s s':Int}{A:Ask}{w0 w w1 w':World} (L:Rt B e A w0) (t:Trn B s w0 w) (k:Kp w0.heap.size w w1) (u:Trn B s' w1 w'):Rk B s' A w0 w':=rkt L (t.nx k u)
theorem rkb {B:Nat}{e s:Int}{A:Ask}{w0 w w1 w':World} (L:Rt B e A w0) (t:Trn B s w0 w) (k:Kp w0.heap.size w w1) (u:Below w1.heap.size w1 w'):Rk B s A w0 w':=rkt L (t.nb k u)
theorem rkn {B:Nat}{e s:Int}{A:Ask}{w0 w E w':World} (L:Rt B e A w0) (t:Trn B s w0 w) (h:w'=E) (k:Kp w0.heap.size w E):Rk B s A w0 w':=rkt L (t.kp (h▸k))
theorem tur_rt {P:Program}{f:FuncId}{args:Array Value}{W:World}{B:Nat}{e s s':Int}{A:Ask}{p:Regrown}{v:Value} (hL:Rt B e A W)
  (h:∀w,Rt B s A w→Calls P f args w fun E w'=>E = .returned v∧Trn B s' w w'):Calls P f args (gt W B s p) fun E w'=>E = .returned v∧Trn B s' (gt W B s p) w':=h _ (hL.gt s p)
abbrev RLG (f:FuncId) (args:Array Value) (B:Nat) (e:Int) (A:Ask) (T:Res):Prop:=∀w,Rt B e A w→Calls Tryz.prog f args w fun E w' =>
 E = .returned (.agg #[.int .i64 T.a,.int .i64 T.b,.int .i64 T.c])∧Trn B T.q w w'
theorem RLG.to {f:FuncId}{args:Array Value}{B:Nat}{e:Int}{A:Ask}{R T:Res} (g:RLG f args B e A T) (h:Is R T):RLG f args B e A R:=by cases h;exact g
end Go.Proofs.YticobgianbecpaaGreatDoor
namespace Go.Proofs.YticobgianbecpaaGreatDoor
open Go Go.Sort Go.RowKit
structure RMed (A:Ask) (n:Int) (b:Box):Prop where
 ok:BoxOk b
 says:∀(B:Nat) (e:Int) (w:World),Rt B e A w→Calls Tryz.prog 118 #[A.val,.int .i64 n] w fun E w' =>
  E = .returned (.agg #[.int .i64 b.il,.int .i64 b.ih,.int .i64 b.tl,.int .i64 b.th,.int .i64 b.lo])∧Below w.heap.size w w'
theorem rmed_front (A:Ask) (hA:AskOk A):RMed A 0 ⟨A.ix,A.ix,0,0,0⟩:=by
 refine⟨⟨hA.i0,Int.le_refl _,hA.i1,Int.le_refl _,Int.le_refl _,(by decide:(0:Int)≤1000000),Int.le_refl _,(by decide:(0:Int)≤80000)⟩,fun B e w Ab => ?_⟩
 clear hA Ab
 unfold Ask.val
 simp only
 go_enter Tryz.func118,Tryz.ntmps118
 repeat' (first|go_values|go_skip|go_guarded|go_step|go_upon|(simp only[];go_simp))
 refine bodyPost_ret (by simp[results,Tryz.results118,go_sem, *];first|done|rfl) rfl ?_
 exact⟨rfl,blw⟩
theorem rmed_last (A:Ask) (hA:AskOk A):RMed A (A.ls.length+1) ⟨A.oi,A.oi,0,0,A.ol⟩:=by
 refine⟨⟨hA.oi0,Int.le_refl _,hA.oi1,Int.le_refl _,Int.le_refl _,(by decide:(0:Int)≤1000000),hA.ol0,hA.ol1⟩,fun B e w Ab => ?_⟩
 have hl:=hA.len
 clear hA Ab
 unfold Ask.val
 simp only
 generalize A.ls.length=n at *
 have h1:¬((n:Int)+1=0):=by omega
 have h2:(n:Int)<n+1:=by omega
 go_enter Tryz.func118,Tryz.ntmps118
 repeat' (first|go_values|go_skip|go_guarded|go_step|go_upon|(simp only[];go_simp))
 refine bodyPost_ret (by simp[results,Tryz.results118,go_sem, *];first|done|rfl) rfl ?_
 exact⟨rfl,blw⟩
theorem rmed_layer (A:Ask) (hA:AskOk A) (j:Nat) (b:Box) (hj:A.ls[j]?=some b):RMed A (j+1) b:=by
 refine⟨hA.ls b (List.mem_of_getElem? hj),fun B e w Ab => ?_⟩
 have hl:=hA.len
 have hjl:j<A.ls.length:=(List.getElem?_eq_some_iff.1 hj).1
 obtain⟨a,ha,hlt,b1,b2,b3,b4,b5⟩:=Ab.row.get j b hj
 clear hA hj Ab
 have h1:¬((j:Int)+1=0):=by omega
 unfold Ask.val
 rw[ha]
 generalize A.ls.length=n at *
 have h2:¬((n:Int)<j+1):=by omega
 have h3:((j:Int)<n):=by omega
 have hz:¬(a.add (j*5)).block=w.heap.size:=by omega
 have hz1:¬(a.add (j*5)).block=w.heap.size+1:=by omega
 go_enter Tryz.func118,Tryz.ntmps118
 repeat' (first|go_values|go_skip|go_guarded|go_step|go_upon|(simp only[];go_simp))
 refine bodyPost_ret (by simp[results,Tryz.results118,go_sem, *];first|done|rfl) rfl ?_
 exact⟨rfl,blw⟩
end Go.Proofs.YticobgianbecpaaGreatDoor
namespace Go.Proofs.YticobgianbecpaaGreatDoor
open Go Go.Sort Go.RowKit
theorem bfloor_dn (n d:Int) (w:World) (h1 : -4611686018427387904≤n) (h2:n≤4611686018427387904) (h3:1≤d) (h4:d≤4611686018427387904) :
  Calls Tryz.prog 58 #[.int .i64 n,.int .i64 d] w fun e w'=>e = .returned (.int .i64 (dn n d))∧w'=w:=by
 unfold dn
 exact bFloor_any n d w (by omega) (by omega) h3 (by omega)
theorem bceil_up (n d:Int) (w:World) (h1 : -4611686018427387904≤n) (h2:n≤4611686018427387904) (h3:1≤d) (h4:d≤4611686018427387904) :
  Calls Tryz.prog 59 #[.int .i64 n,.int .i64 d] w fun e w'=>e = .returned (.int .i64 (up n d))∧w'=w:=by
 rw[← cdv_up h3]
 exact bCeil_any n d w (by omega) (by omega) h3 (by omega)
theorem rcl_range (lo hi:Int):RCl 179 #[.agg #[.int .i64 lo,.int .i64 hi]] (ofRangeM lo hi):=fun w=>by
 have:=rOfRange_any lo hi w
 rw[outR_quad]at this
 exact this
theorem rcl_frac (n d:Int):RCl 226 #[.int .i64 n,.int .i64 d] (ofFracM n d):=fun w=>by
 have:=rOfFrac_any n d w
 rw[outR_quad]at this
 exact this
set_option maxHeartbeats 2000000 in
theorem r_index (B:Nat) (e:Int) (A:Ask) (n:Int) (b:Box) (hM:RMed A n b) :
  RLG 173 #[.pointer (some ⟨B,0,none⟩),A.val,.int .i64 n] B e A (idxR e b):=by
 intro w Ab
 obtain⟨⟨i0,i1,i2,_,_,_,l0,l1⟩,hm⟩:=hM
 have W0:IntKind.i64.wrap (b.il*1048576)=b.il*1048576:=IntWalk.i64_in _ ⟨by omega,by omega⟩
 have W1:IntKind.i64.wrap (b.ih*1048576)=b.ih*1048576:=IntWalk.i64_in _ ⟨by omega,by omega⟩
 have RG:=rcl_range (dn (b.il*1048576) 10000) (up (b.ih*1048576) 10000)
 have KN:=keep_any B e _ (fine_range (dn (b.il*1048576) 10000) (up (b.ih*1048576) 10000))
 obtain⟨N,hN⟩:=is_ex (after e (ofRangeM (dn (b.il*1048576) 10000) (up (b.ih*1048576) 10000)))
 have fN:Fine N:=hN.fine (fine_after _ (fine_range _ _))
 have KN:=KN.to hN
 unfold Ask.val at hm ⊢
 have HM:=Lib.hid hm
 have RG:=Lib.hid RG
 have KN:=Lib.hid KN
 clear hm
 by_cases hl:b.lo=0
 ·rw[idx_no hl,← hN.out]
  clear hN
  generalize ofRangeM (dn (b.il*1048576) 10000) (up (b.ih*1048576) 10000)=R0 at *
  have hl':(b.lo==0)=true:=by simpa using hl
  have A1:=Ab.st
  have Ay:=tr_refl A1
  have Ar:=A1.cell
  have As:=A1.free
  have Ak:=A1.lt
  have B4:=own5 Ak
  go_enter Tryz.func173,Tryz.ntmps173
  go_wp2_with fail
  refine(HM.out B e _ (Rt.turn Ab (Trn.kp Ay kpw))).mono ?_
  rintro e w1 ⟨rfl,A3⟩
  have A5:=A3.size
  (try simp at A5)
  have Aa:=bl5 A3 (w.heap.size+1)
  have A7:=Trn.nb Ay kpw A3
  have Bq:=A7.le
  have An:=Rt.turn Ab A7
  have A2:=An.st
  have At:=A2.cell
  have Au:=A2.free
  have Aq:=A2.lt
  have Av:=own5 Aq
  (try clear Ar As)
  go_wp2_with fail
  refine turn_new (fun i=>i==15) 16 #[.int .i64 0,.int .i64 0,.int .i64 0] 65 _ rfl (by kernel_rfl) (by kernel_rfl) (by first|omega|(simp;omega)) (St.cell (St.turn A1 (Trn.kp A7 kpw))) (fun a w=>by kernel_rfl) fun hG => ?_
  have Ag:=fun o=>hG (w.heap.size+1) lto o (ne_addr (by omega))
  have B7:=fun o=>hG (w1.heap.size) lto o (ne_addr (by omega))
  have Af:=fun o=>hG B lto (o+1) ne_off
  clear hG
  simp only[List.take_succ_cons,List.take_zero,List.drop_succ_cons,List.drop_zero]
  repeat (first|(refine wpTurn_pure rfl (fun K hK => ?_);go_simp;first|(refine hK _ _ ?_;clear hK K)|(apply Exists.intro;refine⟨fun _ _ => ?_,hK _ _ ?_⟩;(first|(go_at_call 58;with_reducible exact cal_same (fun w=>bfloor_dn _ _ w (by omega) (by omega) (by omega) (by omega)))|(go_at_call 59;with_reducible exact cal_same (fun w=>bceil_up _ _ w (by omega) (by omega) (by omega) (by omega)))|(go_at_call 179;with_reducible exact cal_call RG.out));clear hK K))|(refine wpTurn_eff rfl (fun K hK => ?_);go_simp;(first|(with_reducible refine⟨_,_,fun _=>tur_st (St.turn A1 (Trn.kp A7 kpw)) (fun w h=>KN.out w h),?_⟩));refine hK _ _ ?_;clear hK K))
  refine wpTurn_nil ?_
  intro B1 w2 hN
  obtain⟨A0,A4,Ca,Cm,Cn⟩:=hN
  (try simp at A4)
  clear Af Ag B7
  have A8:=A0.size_le
  (try simp at A8)
  have Ah:=tn5 A0 (w.heap.size+1)
  have Aw:=tn5 A0 (w1.heap.size)
  have Ai:=Trn.nx A7 kpw A0
  have C4:=Ai.le
  have Bo:=Rt.turn Ab Ai
  have Ac:=Bo.st
  have Bx:=Ac.cell
  have By:=Ac.free
  have Ax:=Ac.lt
  have C1:=own5 Ax
  (try clear At Au Av)
  have Bk:¬B1=w.heap.size+1:=by first|omega|(simp at A4;omega)
  have Bi:¬w.heap.size+1=B1:=by first|omega|(simp at A4;omega)
  have Bu:¬B1=w1.heap.size:=by first|omega|(simp at A4;omega)
  have Bt:¬w1.heap.size=B1:=by first|omega|(simp at A4;omega)
  have Bj:¬B1=B:=by first|omega|(simp at A4;omega)
  have Bh:¬B=B1:=by first|omega|(simp at A4;omega)
  repeat' (first|go_values|go_skip|go_guarded|go_step|go_upon|(simp only[];go_simp))
  refine bodyPost_ret (by simp[results,Tryz.results173,go_sem, *];first|done|rfl) rfl ?_
  exact⟨rfl,trw⟩
 ·have hl':(b.lo==0)=false:=by simpa using hl
  by_cases hq:N.q=0
  ·have hq':(N.q != 0)=false:=by simpa using hq
   obtain⟨D,hD⟩:=is_ex (after N.q (ofFracM b.lo 10000))
   have fD:Fine D:=hD.fine (fine_after _ (fine_frac _ _))
   obtain⟨T,hT⟩:=is_ex (after D.q (tu D))
   obtain⟨V,hV⟩:=is_ex (after T.q (pl N T))
   rw[(idx_yes hl hN hD hT).out,← hV.out]
   have FR:=rcl_frac b.lo 10000
   have KD:=(keep_any B N.q _ (fine_frac b.lo 10000)).to hD
   obtain⟨U,fU,hU,hPV⟩:∃U:Res,Fine U∧(∀w,Calls Tryz.prog 181 #[.agg #[.int .i64 D.a,.int .i64 D.b,.int .i64 D.c],.int .i64 1] w fun e w'=>e = .returned (.agg #[.int .i64 U.a,.int .i64 U.b,.int .i64 U.c])∧Below w.heap.size w w')∧Is V (after D.q (pl N U)):=by
    have TA:=fun w=>rTurned_any D.a D.b D.c 1 w fD.right.sh.1 fD.right.sh.2 (by unfold inPart;omega)
    by_cases hd:D.q=0
    ·obtain⟨e1,e2⟩:=tu_right fD hd
     refine⟨.good (tuX (qu 1) D.a D.b) (tuY (qu 1) D.a D.b) D.c,e2,?_,?_⟩
     ·intro w
      rw[(quad_good _ _ _).1,(quad_good _ _ _).2.1,(quad_good _ _ _).2.2.1]
      exact TA w
     ·have:T = .good (tuX (qu 1) D.a D.b) (tuY (qu 1) D.a D.b) D.c:=by rw[hT.out,hd,after_zero,e1]
      unfold Is
      rw[hV.out,this,hd,(quad_good _ _ _).2.2.2]
    ·have z:=fD.zero hd
     obtain⟨h1,h2,h3,h4⟩:=quad_bad D.q
     have za:D.a=0:=by rw[z];exact h1
     have zb:D.b=0:=by rw[z];exact h2
     have zc:D.c=0:=by rw[z];exact h3
     refine⟨noneR,fine_noneR,?_,?_⟩
     ·intro w
      have t:=TA w
      rw[za,zb,zc]at t ⊢
      have e1:noneR.a=0∧noneR.b=0∧noneR.c=0:=by unfold noneR;exact⟨(quad_good _ _ _).1,(quad_good _ _ _).2.1,(quad_good _ _ _).2.2.1⟩
      rw[e1.1,e1.2.1,e1.2.2]
      rw[show tuX (qu 1) 0 0=0 from by decide +kernel,show tuY (qu 1) 0 0=0 from by decide +kernel]at t
      exact t
     ·unfold Is
      rw[hV.out,hT.out,after_err _ hd,res_bad_q,after_err _ hd,after_err _ hd]
   have PV:=(r_plus B D.q N U fN fU).to hPV
   have FR:=Lib.hid FR
   have KD:=Lib.hid KD
   have TU:=Lib.hid hU
   have PV:=Lib.hid PV
   clear hN hD hT hV hPV hU hq
   generalize ofRangeM (dn (b.il*1048576) 10000) (up (b.ih*1048576) 10000)=R0 at *
   generalize ofFracM b.lo 10000=R1 at *
   have A1:=Ab.st
   have Ay:=tr_refl A1
   have Ar:=A1.cell
   have As:=A1.free
   have Ak:=A1.lt
   have B4:=own5 Ak
   go_enter Tryz.func173,Tryz.ntmps173
   go_wp2_with fail
   refine(HM.out B e _ (Rt.turn Ab (Trn.kp Ay kpw))).mono ?_
   rintro e w1 ⟨rfl,A3⟩
   have A5:=A3.size
   (try simp at A5)
   have Aa:=bl5 A3 (w.heap.size+1)
   have A7:=Trn.nb Ay kpw A3
   have Bq:=A7.le
   have An:=Rt.turn Ab A7
   have A2:=An.st
   have At:=A2.cell
   have Au:=A2.free
   have Aq:=A2.lt
   have Av:=own5 Aq
   (try clear Ar As)
   go_wp2_with fail
   refine turn_new (fun i=>i==15) 16 #[.int .i64 0,.int .i64 0,.int .i64 0] 65 _ rfl (by kernel_rfl) (by kernel_rfl) (by first|omega|(simp;omega)) (St.cell (St.turn A1 (Trn.kp A7 kpw))) (fun a w=>by kernel_rfl) fun hG => ?_
   have Ag:=fun o=>hG (w.heap.size+1) lto o (ne_addr (by omega))
   have B7:=fun o=>hG (w1.heap.size) lto o (ne_addr (by omega))
   have Af:=fun o=>hG B lto (o+1) ne_off
   clear hG
   simp only[List.take_succ_cons,List.take_zero,List.drop_succ_cons,List.drop_zero]
   repeat (first|(refine wpTurn_pure rfl (fun K hK => ?_);go_simp;first|(refine hK _ _ ?_;clear hK K)|(apply Exists.intro;refine⟨fun _ _ => ?_,hK _ _ ?_⟩;(first|(go_at_call 58;with_reducible exact cal_same (fun w=>bfloor_dn _ _ w (by omega) (by omega) (by omega) (by omega)))|(go_at_call 59;with_reducible exact cal_same (fun w=>bceil_up _ _ w (by omega) (by omega) (by omega) (by omega)))|(go_at_call 179;with_reducible exact cal_call RG.out));clear hK K))|(refine wpTurn_eff rfl (fun K hK => ?_);go_simp;(first|(with_reducible refine⟨_,_,fun _=>tur_st (St.turn A1 (Trn.kp A7 kpw)) (fun w h=>KN.out w h),?_⟩));refine hK _ _ ?_;clear hK K))
   refine wpTurn_nil ?_
   intro B1 w2 hN
   obtain⟨A0,A4,Ca,Cm,Cn⟩:=hN
   (try simp at A4)
   clear Af Ag B7
   have A8:=A0.size_le
   (try simp at A8)
   have Ah:=tn5 A0 (w.heap.size+1)
   have Aw:=tn5 A0 (w1.heap.size)
   have Ai:=Trn.nx A7 kpw A0
   have C4:=Ai.le
   have Bo:=Rt.turn Ab Ai
   have Ac:=Bo.st
   have Bx:=Ac.cell
   have By:=Ac.free
   have Ax:=Ac.lt
   have C1:=own5 Ax
   (try clear At Au Av)
   have Bk:¬B1=w.heap.size+1:=by first|omega|(simp at A4;omega)
   have Bi:¬w.heap.size+1=B1:=by first|omega|(simp at A4;omega)
   have Bu:¬B1=w1.heap.size:=by first|omega|(simp at A4;omega)
   have Bt:¬w1.heap.size=B1:=by first|omega|(simp at A4;omega)
   have Bj:¬B1=B:=by first|omega|(simp at A4;omega)
   have Bh:¬B=B1:=by first|omega|(simp at A4;omega)
   go_wp2_with fail
   refine turn (fun i=>i==8||i==10) 11 (by kernel_rfl) (by kernel_rfl) (St.cell (St.turn A1 (Trn.kp Ai kpw))) fun hG => ?_
   have Ag:=fun o=>hG (w.heap.size+1) lto o (ne_addr (by omega))
   have B7:=fun o=>hG (w1.heap.size) lto o (ne_addr (by omega))
   have Cu:=fun o=>hG (B1) lto o (ne_addr (by omega))
   have Af:=fun o=>hG B lto (o+1) ne_off
   clear hG
   simp only[List.take_succ_cons,List.take_zero,List.drop_succ_cons,List.drop_zero]
   repeat (first|(refine wpTurn_pure rfl (fun K hK => ?_);go_simp;first|(refine hK _ _ ?_;clear hK K)|(apply Exists.intro;refine⟨fun _ _ => ?_,hK _ _ ?_⟩;(first|(go_at_call 226;with_reducible exact cal_call FR.out)|(go_at_call 181;with_reducible exact cal_call TU.out));clear hK K))|(refine wpTurn_eff rfl (fun K hK => ?_);go_simp;(first|(first|with_reducible refine⟨_,_,fun _=>tur_st (St.turn A1 (Trn.kp Ai kpw)) (fun w h=>KD.out w h),?_⟩|with_reducible refine⟨_,_,fun _=>tur_st (St.turn A1 (Trn.kp Ai kpw)) (fun w h=>PV.out w h),?_⟩));refine hK _ _ ?_;clear hK K))
   refine wpTurn_nil ?_
   intro w3 A9
   clear Af Ag B7 Cu
   have Ao:=A9.size_le
   (try simp at Ao)
   have Ap:=tn5 A9 (w.heap.size+1)
   have B3:=tn5 A9 (w1.heap.size)
   have Dt:=tn5 A9 (B1)
   obtain⟨Bw,Ce,C3,Cq,Cj,Cf⟩:=rkx Ab Ai kpw A9
   (try clear Bx By C1)
   repeat' (first|go_values|go_skip|go_guarded|go_step|go_upon|(simp only[];go_simp))
   refine bodyPost_ret (by simp[results,Tryz.results173,go_sem, *];first|done|rfl) rfl ?_
   exact⟨rfl,trw⟩
  ·have hq':(N.q != 0)=true:=by simpa using hq
   have e1:idxR e b=N:=by
    have he:e≠0∨¬(ofRangeM (dn (b.il*1048576) 10000) (up (b.ih*1048576) 10000)).q=0:=by
     by_cases he:e=0
     ·right;intro h;apply hq;rw[hN.out,he,after_zero];exact h
     ·exact .inl he
    have z:=fN.zero hq
    obtain⟨D,hD⟩:=is_ex (after N.q (ofFracM b.lo 10000))
    obtain⟨T,hT⟩:=is_ex (after D.q (tu D))
    rw[(idx_yes hl hN hD hT).out,hT.out,hD.out,after_err _ hq,res_bad_q,after_err _ hq,res_bad_q,after_err _ hq]
    exact z.symm
   rw[e1]
   clear e1 hN
   generalize ofRangeM (dn (b.il*1048576) 10000) (up (b.ih*1048576) 10000)=R0 at *
   have A1:=Ab.st
   have Ay:=tr_refl A1
   have Ar:=A1.cell
   have As:=A1.free
   have Ak:=A1.lt
   have B4:=own5 Ak
   go_enter Tryz.func173,Tryz.ntmps173
   go_wp2_with fail
   refine(HM.out B e _ (Rt.turn Ab (Trn.kp Ay kpw))).mono ?_
   rintro e w1 ⟨rfl,A3⟩
   have A5:=A3.size
   (try simp at A5)
   have Aa:=bl5 A3 (w.heap.size+1)
   have A7:=Trn.nb Ay kpw A3
   have Bq:=A7.le
   have An:=Rt.turn Ab A7
   have A2:=An.st
   have At:=A2.cell
   have Au:=A2.free
   have Aq:=A2.lt
   have Av:=own5 Aq
   (try clear Ar As)
   go_wp2_with fail
   refine turn_new (fun i=>i==15) 16 #[.int .i64 0,.int .i64 0,.int .i64 0] 65 _ rfl (by kernel_rfl) (by kernel_rfl) (by first|omega|(simp;omega)) (St.cell (St.turn A1 (Trn.kp A7 kpw))) (fun a w=>by kernel_rfl) fun hG => ?_
   have Ag:=fun o=>hG (w.heap.size+1) lto o (ne_addr (by omega))
   have B7:=fun o=>hG (w1.heap.size) lto o (ne_addr (by omega))
   have Af:=fun o=>hG B lto (o+1) ne_off
   clear hG
   simp only[List.take_succ_cons,List.take_zero,List.drop_succ_cons,List.drop_zero]
   repeat (first|(refine wpTurn_pure rfl (fun K hK => ?_);go_simp;first|(refine hK _ _ ?_;clear hK K)|(apply Exists.intro;refine⟨fun _ _ => ?_,hK _ _ ?_⟩;(first|(go_at_call 58;with_reducible exact cal_same (fun w=>bfloor_dn _ _ w (by omega) (by omega) (by omega) (by omega)))|(go_at_call 59;with_reducible exact cal_same (fun w=>bceil_up _ _ w (by omega) (by omega) (by omega) (by omega)))|(go_at_call 179;with_reducible exact cal_call RG.out));clear hK K))|(refine wpTurn_eff rfl (fun K hK => ?_);go_simp;(first|(with_reducible refine⟨_,_,fun _=>tur_st (St.turn A1 (Trn.kp A7 kpw)) (fun w h=>KN.out w h),?_⟩));refine hK _ _ ?_;clear hK K))
   refine wpTurn_nil ?_
   intro B1 w2 hN
   obtain⟨A0,A4,Ca,Cm,Cn⟩:=hN
   (try simp at A4)
   clear Af Ag B7
   have A8:=A0.size_le
   (try simp at A8)
   have Ah:=tn5 A0 (w.heap.size+1)
   have Aw:=tn5 A0 (w1.heap.size)
   have Ai:=Trn.nx A7 kpw A0
   have C4:=Ai.le
   have Bo:=Rt.turn Ab Ai
   have Ac:=Bo.st
   have Bx:=Ac.cell
   have By:=Ac.free
   have Ax:=Ac.lt
   have C1:=own5 Ax
   (try clear At Au Av)
   have Bk:¬B1=w.heap.size+1:=by first|omega|(simp at A4;omega)
   have Bi:¬w.heap.size+1=B1:=by first|omega|(simp at A4;omega)
   have Bu:¬B1=w1.heap.size:=by first|omega|(simp at A4;omega)
   have Bt:¬w1.heap.size=B1:=by first|omega|(simp at A4;omega)
   have Bj:¬B1=B:=by first|omega|(simp at A4;omega)
   have Bh:¬B=B1:=by first|omega|(simp at A4;omega)
   repeat' (first|go_values|go_skip|go_guarded|go_step|go_upon|(simp only[];go_simp))
   refine bodyPost_ret (by simp[results,Tryz.results173,go_sem, *];first|done|rfl) rfl ?_
   exact⟨rfl,trw⟩
set_option maxHeartbeats 2000000 in
theorem r_side (B:Nat) (e:Int) (A:Ask) (hA:AskOk A) (S:Res) (hS:Is S (after e (sideR A))) :
  RLG 174 #[.pointer (some ⟨B,0,none⟩),A.val] B e A S:=by
 intro w Ab
 obtain⟨k0,k1,s0,s1,s2,_,_,_,_,_,_,_,_,_,_⟩:=hA
 have m0:0≤A.ix*A.sl:=Int.mul_nonneg (by omega) s0
 have m1:A.ix*A.sl≤80000*9999:=Int.mul_le_mul k1 (by omega) s0 (by decide)
 have m2:0≤A.ix*A.sh:=Int.mul_nonneg (by omega) (by omega)
 have m3:A.ix*A.sh≤80000*9999:=Int.mul_le_mul k1 s2 (by omega) (by decide)
 have W0:IntKind.i64.wrap (A.ix*A.sl)=A.ix*A.sl:=IntWalk.i64_in _ ⟨by omega,by omega⟩
 have W1:IntKind.i64.wrap (A.ix*A.sh)=A.ix*A.sh:=IntWalk.i64_in _ ⟨by omega,by omega⟩
 have W2:IntKind.i64.wrap (A.ix*A.sl*1048576)=A.ix*A.sl*1048576:=IntWalk.i64_in _ ⟨by omega,by omega⟩
 have W3:IntKind.i64.wrap (A.ix*A.sh*1048576)=A.ix*A.sh*1048576:=IntWalk.i64_in _ ⟨by omega,by omega⟩
 have RG:=rcl_range (dn (A.ix*A.sl*1048576) 100000000) (up (A.ix*A.sh*1048576) 100000000)
 have KN:=(keep_any B e _ (fine_range (dn (A.ix*A.sl*1048576) 100000000) (up (A.ix*A.sh*1048576) 100000000))).to (by unfold sideR at hS;exact hS)
 generalize ofRangeM (dn (A.ix*A.sl*1048576) 100000000) (up (A.ix*A.sh*1048576) 100000000)=R0 at *
 have RG:=Lib.hid RG
 have KN:=Lib.hid KN
 clear hS
 unfold Ask.val
 have A1:=Ab.st
 have Ay:=tr_refl A1
 have Ar:=A1.cell
 have As:=A1.free
 have Ak:=A1.lt
 have B4:=own5 Ak
 go_enter Tryz.func174,Tryz.ntmps174
 go_wp2_with fail
 refine calm_all (by kernel_rfl) (by kernel_rfl) fun hG => ?_
 have Eh:=hG (w.heap.size) lto
 have Ag:=hG (w.heap.size+1) lto
 have Af:=hG B lto
 clear hG
 repeat (go_big_quiet_step (first|fail))
 refine wpQuiet_nil ?_
 intro w1 A3
 clear Eh Ag Af
 have A5:=A3.size
 (try simp at A5)
 have B2:=bl5 A3 (w.heap.size)
 have Aa:=bl5 A3 (w.heap.size+1)
 obtain⟨A7,An,A2,Bq,Bz,Br⟩:=rkb Ab Ay kpw A3
 (try clear Ar As)
 go_wp2_with fail
 refine(bfloor_dn _ _ _ (by omega) (by omega) (by omega) (by omega)).mono ?_
 rintro e w' ⟨rfl,rfl⟩
 go_wp2_with fail
 refine(bceil_up _ _ _ (by omega) (by omega) (by omega) (by omega)).mono ?_
 rintro e w' ⟨rfl,rfl⟩
 go_wp2_with fail
 refine(RG.out _).mono ?_
 rintro e w2 ⟨rfl,Ad⟩
 have A8:=Ad.size
 (try simp at A8)
 have Ah:=bl5 Ad (w.heap.size+1)
 obtain⟨Ai,Bo,Ac,C4,C0,C6⟩:=rkb Ab A7 kpw Ad
 (try clear Br Bz)
 go_wp2_with fail
 refine(KN.out _ (St.turn A1 (Trn.kp Ai kpw))).mono ?_
 rintro e w3 ⟨rfl,A9⟩
 have Ao:=A9.size_le
 (try simp at Ao)
 have Ap:=tn5 A9 (w.heap.size+1)
 obtain⟨Bw,Ce,C3,Cq,Cj,Cf⟩:=rkx Ab Ai kpw A9
 (try clear C6 C0)
 repeat' (first|go_values|go_skip|go_guarded|go_step|go_upon|(simp only[];go_simp))
 refine bodyPost_ret (by simp[results,Tryz.results174,go_sem, *];first|done|rfl) rfl ?_
 exact⟨rfl,trw⟩
end Go.Proofs.YticobgianbecpaaGreatDoor
namespace Go.Proofs.YticobgianbecpaaGreatDoor
open Go Go.Sort Go.RowKit
structure New3 (W:World) (B:Nat) (s:Int) (N:Nat) (v0 v1 v2:Value) (w:World):Prop where
 trn:Trn B s W w
 lo:W.heap.size≤N
 hi:N<w.heap.size
 c0:w.cell? ⟨N,0,none⟩=some v0
 c1:w.cell? ⟨N,1,none⟩=some v1
 c2:w.cell? ⟨N,2,none⟩=some v2
 free:∀o,w.frozen? ⟨N,o,none⟩=false
def blkOf (a:Act) (i:Nat):Nat:=match a.eval (.tmp i)with | .pointer (some p)=>p.block|_=>0
theorem wp_cutT {P:Program}{c:Code}{Q:Exit→Act→World→Prop}{a:Act}{w:World} (F:Nat→Nat→Act→Act) (i j:Nat) (B:Nat) (s:Int) (v0 v1 v2 u0 u1 u2:Value)
  (h1:c.wp P (fun e a' w'=>e = .normal∧∀b0 b1,blkOf a' i=b0→blkOf a' j=b1→a'=F b0 b1 a∧New3 w B s b0 v0 v1 v2 w'∧New3 w B s b1 u0 u1 u2 w'∧b0≠b1) a w)
  (h2:∀B0 B1 w',New3 w B s B0 v0 v1 v2 w'→New3 w B s B1 u0 u1 u2 w'→B0≠B1→Q .normal (F B0 B1 a) w'):c.wp P Q a w :=
 Code.wp_mono (fun e a' w' h=>by obtain⟨rfl,h⟩:=h;obtain⟨e,k0,k1,k2⟩:=h _ _ rfl rfl;rw[e];exact h2 _ _ w' k0 k1 k2) h1
end Go.Proofs.YticobgianbecpaaGreatDoor
namespace Go.Proofs.YticobgianbecpaaGreatDoor
open Go Go.Sort Go.RowKit
set_option maxRecDepth 100000 in
set_option maxHeartbeats 8000000 in
theorem r_square (B:Nat) (e:Int) (A:Ask) (n:Int) (N S Q U V:Res) (IX:RLG 173 #[.pointer (some ⟨B,0,none⟩),A.val,.int .i64 n] B e A N) (SI:RLG 174 #[.pointer (some ⟨B,0,none⟩),A.val] B N.q A S)
  (fN:Fine N) (fS:Fine S) (fQ:Fine Q) (fU:Fine U) (hQ:Is Q (after S.q (ti N N))) (hU:Is U (after Q.q (ti S S))) (hV:Is V (after U.q (mi Q U))) (w:World) (Ab:Rt B e A w) :
  Calls Tryz.prog 117 #[.pointer (some ⟨B,0,none⟩),A.val,.int .i64 n] w fun E w' =>
   E = .returned (.tuple #[.agg #[.int .i64 Q.a,.int .i64 Q.b,.int .i64 Q.c],.agg #[.int .i64 V.a,.int .i64 V.b,.int .i64 V.c]])∧Trn B V.q w w':=by
 unfold Ask.val at IX SI ⊢
 have IX:=Lib.hid IX
 have SI:=Lib.hid SI
 have TQ:=Lib.hid ((r_times B S.q N N fN fN).to hQ)
 have TU:=Lib.hid ((r_times B Q.q S S fS fS).to hU)
 have TV:=Lib.hid ((r_minus B U.q Q U fQ fU).to hV)
 clear hQ hU hV fN fS fQ fU
 have A1:=Ab.st
 have Ay:=tr_refl A1
 have Ar:=A1.cell
 have As:=A1.free
 have Ak:=A1.lt
 have B4:=own5 Ak
 go_enter Tryz.func117,Tryz.ntmps117
 repeat (first|(with_reducible refine wp_markr 1 ?_)|go_values|go_skip|go_guarded|go_step|go_upon|(simp only[];go_simp))
 refine wp_named (fun w1 Be => ?_)
 have A5:=congrArg (fun w=>w.heap.size) Be
 (try simp at A5)
 replace A5:=Nat.le_of_eq A5.symm
 obtain⟨A7,An,A2,Bq,Bz,Br⟩:=rkn Ab Ay Be kpw
 have B2:=cas Be (w.heap.size) [.int .i64 A.ix,.int .i64 A.sl,.int .i64 A.sh,.int .i64 A.po,.int .i64 A.wl,.int .i64 A.wh,.slice A.pa A.ls.length A.cap,.int .i64 A.oi,.int .i64 A.ol]
 have Aa:=cas Be (w.heap.size+1) [.int .i64 0,.int .i64 0,.int .i64 0]
 have Ae:=cas Be (w.heap.size+1+1) [.int .i64 0,.int .i64 0,.int .i64 0]
 simp only[CAf,Nat.reduceAdd,and_true]at B2 Aa Ae
 clear Be
 (try clear Ar As)
 go_wp2_with fail
 skip
 skip
 refine wp_cutT (fun B0 B1 a=>((((((((a.put (some 12) (.pointer (some ⟨B,0,none⟩))).put (some 13) (.agg #[.int .i64 A.ix,.int .i64 A.sl,.int .i64 A.sh,.int .i64 A.po,.int .i64 A.wl,.int .i64 A.wh,.slice A.pa A.ls.length A.cap,.int .i64 A.oi,.int .i64 A.ol])).put (some 14) (.int .i64 n)).put (some 15) (.agg #[.int .i64 N.a,.int .i64 N.b,.int .i64 N.c])).put (some 16) (.pointer (some ⟨B,0,none⟩))).put (some 17) (.agg #[.int .i64 A.ix,.int .i64 A.sl,.int .i64 A.sh,.int .i64 A.po,.int .i64 A.wl,.int .i64 A.wh,.slice A.pa A.ls.length A.cap,.int .i64 A.oi,.int .i64 A.ol])).put (some 18) (.agg #[.int .i64 S.a,.int .i64 S.b,.int .i64 S.c])).put (some 8) (.pointer (some ⟨B0,0,none⟩))).put (some 9) (.pointer (some ⟨B1,0,none⟩))) 8 9 B S.q (.int .i64 N.a) (.int .i64 N.b) (.int .i64 N.c) (.int .i64 S.a) (.int .i64 S.b) (.int .i64 S.c) ?_ ?_
 ·have U_w1:=tr_refl A2
  (try clear TQ TU TV Ab A1 Ay A7 Br Bz)
  go_region_held3 (fun w'=>w'.cell? ⟨w.heap.size,0,none⟩=some (.int .i64 A.ix)∧w'.cell? ⟨w.heap.size,1,none⟩=some (.int .i64 A.sl)∧w'.cell? ⟨w.heap.size,2,none⟩=some (.int .i64 A.sh)∧w'.cell? ⟨w.heap.size,3,none⟩=some (.int .i64 A.po)∧w'.cell? ⟨w.heap.size,4,none⟩=some (.int .i64 A.wl)∧w'.cell? ⟨w.heap.size,5,none⟩=some (.int .i64 A.wh)∧w'.cell? ⟨w.heap.size,6,none⟩=some (.slice A.pa A.ls.length A.cap)∧w'.cell? ⟨w.heap.size,7,none⟩=some (.int .i64 A.oi)∧w'.cell? ⟨w.heap.size,8,none⟩=some (.int .i64 A.ol)) (simp[*,go_sem]) (first|(go_at_call 173;refine(IX.out _ (Rt.turn An (Trn.kp U_w1 kpw))).mono ?_;rintro e w2 ⟨rfl,A0⟩;have A8:=A0.size_le;(try simp at A8);have U_w2:=Trn.nx U_w1 kpw A0;have Dz:=tnc A0 (w.heap.size);have Gn:¬w.heap.size=w2.heap.size:=(by omega);have Ax:w.heap.size<w2.heap.size:=(by omega);have y_w2:w.heap.size<w2.heap.size+1:=(by omega);have x_w2:w.heap.size<w2.heap.size+1+1:=(by omega);have C0:¬w.heap.size=w2.heap.size+1:=(by omega);(try have Ek:=tnc A0 (w1.heap.size));(try have Eq:=tnf A0 (w1.heap.size));(try have Fk:w1.heap.size<w2.heap.size:=by omega);(try have Fq:w1.heap.size<w2.heap.size+1:=by omega);(try have F8:¬w1.heap.size=w2.heap.size:=by omega);(try have Fe:¬w1.heap.size=w2.heap.size+1:=by omega);(try have F2:¬w2.heap.size=w1.heap.size:=by omega);(try have Ew:¬w2.heap.size+1=w1.heap.size:=by omega);(try have Em:=tnc A0 (w1.heap.size+1));(try have Es:=tnf A0 (w1.heap.size+1));(try have Fm:w1.heap.size+1<w2.heap.size:=by omega);(try have Fs:w1.heap.size+1<w2.heap.size+1:=by omega);(try have Fa:¬w1.heap.size+1=w2.heap.size:=by omega);(try have Fg:¬w1.heap.size+1=w2.heap.size+1:=by omega);(try have F4:¬w2.heap.size=w1.heap.size+1:=by omega);(try have Ey:¬w2.heap.size+1=w1.heap.size+1:=by omega))|(go_at_call 174;refine(SI.out _ (Rt.turn An (Trn.kp U_w2 kpw))).mono ?_;rintro e w3 ⟨rfl,A9⟩;have Ao:=A9.size_le;(try simp at Ao);have U_w3:=Trn.nx U_w2 kpw A9;have E0:=tnc A9 (w.heap.size);have Gp:¬w.heap.size=w3.heap.size:=(by omega);have Dy:w.heap.size<w3.heap.size:=(by omega);have y_w3:w.heap.size<w3.heap.size+1:=(by omega);have x_w3:w.heap.size<w3.heap.size+1+1:=(by omega);have Cj:¬w.heap.size=w3.heap.size+1:=(by omega);(try have El:=tnc A9 (w1.heap.size));(try have Er:=tnf A9 (w1.heap.size));(try have Fl:w1.heap.size<w3.heap.size:=by omega);(try have Fr:w1.heap.size<w3.heap.size+1:=by omega);(try have F9:¬w1.heap.size=w3.heap.size:=by omega);(try have Ff:¬w1.heap.size=w3.heap.size+1:=by omega);(try have F3:¬w3.heap.size=w1.heap.size:=by omega);(try have Ex:¬w3.heap.size+1=w1.heap.size:=by omega);(try have En:=tnc A9 (w1.heap.size+1));(try have Et:=tnf A9 (w1.heap.size+1));(try have Fn:w1.heap.size+1<w3.heap.size:=by omega);(try have Ft:w1.heap.size+1<w3.heap.size+1:=by omega);(try have Fb:¬w1.heap.size+1=w3.heap.size:=by omega);(try have Fh:¬w1.heap.size+1=w3.heap.size+1:=by omega);(try have F5:¬w3.heap.size=w1.heap.size+1:=by omega);(try have Ez:¬w3.heap.size+1=w1.heap.size+1:=by omega);(try have Eo:=tnc A9 (w2.heap.size));(try have Eu:=tnf A9 (w2.heap.size));(try have Fo:w2.heap.size<w3.heap.size:=by omega);(try have Fu:w2.heap.size<w3.heap.size+1:=by omega);(try have Fc:¬w2.heap.size=w3.heap.size:=by omega);(try have Fi:¬w2.heap.size=w3.heap.size+1:=by omega);(try have F6:¬w3.heap.size=w2.heap.size:=by omega);(try have F0:¬w3.heap.size+1=w2.heap.size:=by omega);(try have Ep:=tnc A9 (w2.heap.size+1));(try have Ev:=tnf A9 (w2.heap.size+1));(try have Fp:w2.heap.size+1<w3.heap.size:=by omega);(try have Fv:w2.heap.size+1<w3.heap.size+1:=by omega);(try have Fd:¬w2.heap.size+1=w3.heap.size:=by omega);(try have Fj:¬w2.heap.size+1=w3.heap.size+1:=by omega);(try have F7:¬w3.heap.size=w2.heap.size+1:=by omega);(try have F1:¬w3.heap.size+1=w2.heap.size+1:=by omega)))
  all_goals
   refine⟨rfl,fun b0 b1 h0 h1 => ?_⟩
   subst h0;subst h1
   clear IX SI An
   simp only[blkOf]
   go_simp
   exact⟨⟨Trn.kp U_w3 kpw,by first|omega|(simp;done)|(simp;omega),by first|omega|(simp;done)|(simp;omega),by go_simp,by go_simp,by go_simp,fun o=>by go_simp⟩,⟨Trn.kp U_w3 kpw,by first|omega|(simp;done)|(simp;omega),by first|omega|(simp;done)|(simp;omega),by go_simp,by go_simp,by go_simp,fun o=>by go_simp⟩⟩
 ·clear IX SI
  intro D0 D1 w4 hN hM C5
  obtain⟨Bv,Al,Ei,Eb,Ed,Ef,G8⟩:=hN
  obtain⟨_,Am,Ej,Ec,Ee,Eg,G9⟩:=hM
  (try simp at Al Am)
  have Dc:¬D1=D0:=Ne.symm C5
  have B8:=Bv.size_le
  (try simp at B8)
  have Fw:=tn5 Bv (w.heap.size)
  have Bc:=tn5 Bv (w.heap.size+1)
  have Bd:=tn5 Bv (w.heap.size+1+1)
  obtain⟨Bp,Co,C8,Dp,Ck,Cg⟩:=rkx Ab A7 kpw Bv
  (try clear Br Bz)
  have E3:¬D0=w.heap.size:=by first|omega|(simp at Al;omega)
  have E1:¬w.heap.size=D0:=by first|omega|(simp at Al;omega)
  have D7:¬D0=w.heap.size+1:=by first|omega|(simp at Al;omega)
  have Cz:¬w.heap.size+1=D0:=by first|omega|(simp at Al;omega)
  have D8:¬D0=w.heap.size+1+1:=by first|omega|(simp at Al;omega)
  have D2:¬w.heap.size+1+1=D0:=by first|omega|(simp at Al;omega)
  have D6:¬D0=B:=by first|omega|(simp at Al;omega)
  have Cy:¬B=D0:=by first|omega|(simp at Al;omega)
  have E4:¬D1=w.heap.size:=by first|omega|(simp at Am;omega)
  have E2:¬w.heap.size=D1:=by first|omega|(simp at Am;omega)
  have Da:¬D1=w.heap.size+1:=by first|omega|(simp at Am;omega)
  have D4:¬w.heap.size+1=D1:=by first|omega|(simp at Am;omega)
  have Db:¬D1=w.heap.size+1+1:=by first|omega|(simp at Am;omega)
  have D5:¬w.heap.size+1+1=D1:=by first|omega|(simp at Am;omega)
  have D9:¬D1=B:=by first|omega|(simp at Am;omega)
  have D3:¬B=D1:=by first|omega|(simp at Am;omega)
  go_wp2_with fail
  refine(TQ.out _ (St.turn A1 (Trn.kp Bp kpw))).mono ?_
  rintro e w11 ⟨rfl,B9⟩
  have Cv:=B9.size_le
  (try simp at Cv)
  have Dd:=tn5 B9 (w.heap.size+1)
  have De:=tn5 B9 (w.heap.size+1+1)
  have Df:=tn5 B9 (D1)
  obtain⟨Cl,Fy,G1,G5,Gb,Dr⟩:=rkx Ab Bp kpw B9
  (try clear Cg Ck)
  go_wp2_with fail
  refine(TU.out _ (St.turn A1 (Trn.kp Cl kpw))).mono ?_
  rintro e w12 ⟨rfl,Ba⟩
  have Cw:=Ba.size_le
  (try simp at Cw)
  have Dh:=tn5 Ba (w.heap.size+1)
  have Di:=tn5 Ba (w.heap.size+1+1)
  have Dg:=tn5 Ba (w11.heap.size)
  obtain⟨C9,Fz,G2,G6,Gc,Ds⟩:=rkx Ab Cl kpw Ba
  (try clear Dr)
  go_wp2_with fail
  refine turn (fun i=>i==4) 5 (by kernel_rfl) (by kernel_rfl) (St.cell (St.turn A1 (Trn.kp C9 kpw))) fun hG => ?_
  have Ag:=fun o=>hG (w.heap.size+1) lto o (ne_addr (by omega))
  have Ct:=fun o=>hG (w.heap.size+1+1) lto o (ne_addr (by omega))
  have Cr:=fun o=>hG (w11.heap.size) lto o (ne_addr (by omega))
  have Cs:=fun o=>hG (w12.heap.size) lto o (ne_addr (by omega))
  have Af:=fun o=>hG B lto (o+1) ne_off
  clear hG
  simp only[List.take_succ_cons,List.take_zero,List.drop_succ_cons,List.drop_zero]
  repeat (first|(refine wpTurn_pure rfl (fun K hK => ?_);go_simp;first|(refine hK _ _ ?_;clear hK K)|(apply Exists.intro;refine⟨fun _ _ => ?_,hK _ _ ?_⟩;(first|fail);clear hK K))|(refine wpTurn_eff rfl (fun K hK => ?_);go_simp;(first|(with_reducible refine⟨_,_,fun _=>tur_st (St.turn A1 (Trn.kp C9 kpw)) (fun w h=>TV.out w h),?_⟩));refine hK _ _ ?_;clear hK K))
  refine wpTurn_nil ?_
  intro w13 Az
  clear Af Ag Ct Cr Cs
  have Cx:=Az.size_le
  (try simp at Cx)
  have Dl:=tn5 Az (w.heap.size+1)
  have Dm:=tn5 Az (w.heap.size+1+1)
  have Dj:=tn5 Az (w11.heap.size)
  have Dk:=tn5 Az (w12.heap.size)
  obtain⟨G4,G0,G3,G7,Gd,Ga⟩:=rkx Ab C9 kpw Az
  (try clear Ds)
  repeat' (first|go_values|go_skip|go_guarded|go_step|go_upon|(simp only[];go_simp))
  refine bodyPost_ret (by simp[results,Tryz.results117,go_sem, *];first|done|rfl) rfl ?_
  exact⟨rfl,trw⟩
end Go.Proofs.YticobgianbecpaaGreatDoor
namespace Go.Proofs.YticobgianbecpaaGreatDoor
open Go.RowKit
set_option maxHeartbeats 1000000 in
theorem rParts_yes (x y r:Int) (w:World) (h:Right x y r) :
  Calls Tryz.prog 54 #[.agg #[.int .i64 x,.int .i64 y,.int .i64 r]] w fun e w'=>e = .returned (.agg #[.int .i64 (x-r),.int .i64 (x+r),.int .i64 (y-r),.int .i64 (y+r)])∧Below w.heap.size w w':=by
 obtain⟨⟨h1,h2,h3,h4⟩,h5,h6⟩:=h
 go_enter Tryz.func54,Tryz.ntmps54
 go_wp2
 refine bodyPost_ret (by simp[results,Tryz.results54,go_sem, *];first|done|rfl) rfl ?_
 exact⟨rfl,blw⟩
end Go.Proofs.YticobgianbecpaaGreatDoor
namespace Go.Proofs.YticobgianbecpaaGreatDoor
open Go Go.Sort Go.RowKit
@[go_sem high] theorem run_box_loss (a b c d e:Value) (w:World):(Instr.field 52 (.agg #[a,b,c,d,e]) 2).run Tryz.prog w = .ok e w:=by kernel_rfl
@[go_sem high] theorem run_pars0 (a b c d:Value) (w:World):(Instr.index 88 (.agg #[a,b,c,d]) (.int .i64 0)).run Tryz.prog w = .ok (.agg #[a,b]) w:=by kernel_rfl
abbrev RNG (n:Int) (B:Nat) (e:Int) (A:Ask) (q nn:Res) (st:Bool) (k:Int):Prop:=∀w,Rt B e A w→Calls Tryz.prog 53 #[.pointer (some ⟨B,0,none⟩),A.val,.int .i64 n] w fun E w' =>
 E = .returned (.tuple #[.agg #[.int .i64 q.a,.int .i64 q.b,.int .i64 q.c],.agg #[.int .i64 nn.a,.int .i64 nn.b,.int .i64 nn.c],.bool st])∧Trn B k w w'
abbrev RSQ (n:Int) (B:Nat) (e:Int) (A:Ask) (Q V:Res):Prop:=∀w,Rt B e A w→Calls Tryz.prog 117 #[.pointer (some ⟨B,0,none⟩),A.val,.int .i64 n] w fun E w' =>
   E = .returned (.tuple #[.agg #[.int .i64 Q.a,.int .i64 Q.b,.int .i64 Q.c],.agg #[.int .i64 V.a,.int .i64 V.b,.int .i64 V.c]])∧Trn B V.q w w'
set_option maxHeartbeats 4000000 in
theorem rnor_C (B:Nat) (e:Int) (A:Ask) (n:Int) (Q V:Res) (SQ:RSQ n B e A Q V) (hv:¬V.q=0):RNG n B e A noneR noneR false V.q:=by
 intro w Ab
 have hv1:(V.q != 0)=true:=by simpa using hv
 obtain⟨z1,z2,z3⟩:noneR.a=0∧noneR.b=0∧noneR.c=0:=by unfold noneR;exact⟨(quad_good _ _ _).1,(quad_good _ _ _).2.1,(quad_good _ _ _).2.2.1⟩
 rw[z1,z2,z3]
 clear z1 z2 z3 hv
 unfold RSQ at SQ
 unfold Ask.val at SQ ⊢
 have SQ:=Lib.hid SQ
 have A1:=Ab.st
 have Ay:=tr_refl A1
 have Ar:=A1.cell
 have As:=A1.free
 have Ak:=A1.lt
 have B4:=own5 Ak
 go_enter Tryz.func53,Tryz.ntmps53
 go_wp2_with fail
 refine(SQ.out _ (Rt.turn Ab (Trn.kp Ay kpw))).mono ?_
 rintro e w1 ⟨rfl,A6⟩
 have A5:=A6.size_le
 (try simp at A5)
 have Aa:=tn5 A6 (w.heap.size+1)
 have Ae:=tn5 A6 (w.heap.size+1+1)
 obtain⟨A7,An,A2,Bq,Bz,Br⟩:=rkx Ab Ay kpw A6
 (try clear Ar As)
 repeat' (first|go_values|go_skip|go_guarded|go_step|go_upon|(simp only[];go_simp))
 refine bodyPost_ret (by simp[results,Tryz.results53,go_sem, *];first|done|rfl) rfl ?_
 exact⟨rfl,trw⟩
set_option maxHeartbeats 4000000 in
theorem rnor_B (B:Nat) (e:Int) (A:Ask) (n:Int) (b:Box) (Q V T R:Res) (SQ:RSQ n B e A Q V) (hM:RMed A n b) (hv:V.q=0) (hl:¬b.lo=0) (RO:RCl 120 #[.agg #[.int .i64 V.a,.int .i64 V.b,.int .i64 V.c]] R) (fR:Fine R) (hT:Is T (after V.q R)):RNG n B e A T Q false T.q:=by
 intro w Ab
 have hv1:(V.q != 0)=false:=by simpa using hv
 have hl1:(b.lo != 0)=true:=by simpa using hl
 have KE:=Lib.hid ((keep_any B V.q R fR).to hT)
 have HM:=hM.says
 unfold RSQ at SQ
 unfold Ask.val at SQ HM ⊢
 have SQ:=Lib.hid SQ
 have HM:=Lib.hid HM
 have RO:=Lib.hid RO
 clear hv hl hM fR hT
 have A1:=Ab.st
 have Ay:=tr_refl A1
 have Ar:=A1.cell
 have As:=A1.free
 have Ak:=A1.lt
 have B4:=own5 Ak
 go_enter Tryz.func53,Tryz.ntmps53
 go_wp2_with fail
 refine(SQ.out _ (Rt.turn Ab (Trn.kp Ay kpw))).mono ?_
 rintro e w1 ⟨rfl,A6⟩
 have A5:=A6.size_le
 (try simp at A5)
 have B2:=tn5 A6 (w.heap.size)
 have Aa:=tn5 A6 (w.heap.size+1)
 have Ae:=tn5 A6 (w.heap.size+1+1)
 obtain⟨A7,An,A2,Bq,Bz,Br⟩:=rkx Ab Ay kpw A6
 (try clear Ar As)
 go_wp2_with fail
 refine(HM.out B V.q _ (Rt.turn Ab (Trn.kp A7 kpw))).mono ?_
 rintro e w2 ⟨rfl,Ad⟩
 have A8:=Ad.size
 (try simp at A8)
 have Ah:=bl5 Ad (w.heap.size+1)
 have Aj:=bl5 Ad (w.heap.size+1+1)
 have Aw:=bl5 Ad (w1.heap.size)
 have Bn:=bl5 Ad (w1.heap.size+1)
 obtain⟨Ai,Bo,Ac,C4,C0,C6⟩:=rkb Ab A7 kpw Ad
 (try clear Br)
 repeat (first|(with_reducible refine wp_markr 5 ?_)|go_values|go_skip|go_guarded|go_step|go_upon|(simp only[];go_simp))
 refine wp_named (fun w3 B5 => ?_)
 have Ao:=congrArg (fun w=>w.heap.size) B5
 (try simp at Ao)
 replace Ao:=Nat.le_of_eq Ao.symm
 have Bw:=Trn.kp Ai (show Kp w.heap.size w2 w3 from B5▸kpw)
 have Cq:=Bw.le
 have Ce:=Rt.turn Ab Bw
 have C3:=Ce.st
 have Gh:=C3.cell
 have Gj:=C3.free
 have Dy:=C3.lt
 have Gr:=own5 Dy
 have Ap:=cas B5 (w.heap.size+1) [.int .i64 0,.int .i64 0,.int .i64 0]
 have Bb:=cas B5 (w.heap.size+1+1) [.int .i64 0,.int .i64 0,.int .i64 0]
 have B3:=cas B5 (w1.heap.size) [.int .i64 Q.a,.int .i64 Q.b,.int .i64 Q.c]
 have C7:=cas B5 (w1.heap.size+1) [.int .i64 V.a,.int .i64 V.b,.int .i64 V.c]
 simp only[CAf,Nat.reduceAdd,and_true]at Ap Bb B3 C7
 clear B5
 (try clear Ah Aj Aw Bn C6 C0)
 go_wp2_with fail
 go_region_held3 (fun w'=>w'.cell? ⟨w1.heap.size,0,none⟩=some (.int .i64 Q.a)∧w'.cell? ⟨w1.heap.size,1,none⟩=some (.int .i64 Q.b)∧w'.cell? ⟨w1.heap.size,2,none⟩=some (.int .i64 Q.c)∧w'.cell? ⟨w1.heap.size+1,0,none⟩=some (.int .i64 V.a)∧w'.cell? ⟨w1.heap.size+1,1,none⟩=some (.int .i64 V.b)∧w'.cell? ⟨w1.heap.size+1,2,none⟩=some (.int .i64 V.c)) (simp[*,go_sem]) (first|(go_at_call 120;refine(RO.out _).mono ?_;rintro e w4 ⟨rfl,Bf⟩;have B8:=Bf.size;(try simp at B8);have Bc:=bl5 Bf (w.heap.size+1);have Bd:=bl5 Bf (w.heap.size+1+1);have C2:=bl5 Bf (w1.heap.size);have Dn:=bl5 Bf (w1.heap.size+1);obtain⟨Bp,Co,C8,Dp,Ck,Cg⟩:=rkb Ab Bw kpw Bf;(try clear Cf);(try clear Cj))|(go_at_call 119;refine(KE.out _ (St.turn A1 (Trn.kp Bp kpw))).mono ?_;rintro e w5 ⟨rfl,Bl⟩;have Cb:=Bl.size_le;(try simp at Cb);have Cc:=tn5 Bl (w.heap.size+1);have Cd:=tn5 Bl (w.heap.size+1+1);have Ci:=tn5 Bl (w1.heap.size);have Do:=tn5 Bl (w1.heap.size+1);obtain⟨Cp,E8,E9,Ea,Dx,Du⟩:=rkx Ab Bp kpw Bl;(try clear Cg);(try clear Ck)))
 repeat' (first|go_values|go_skip|go_guarded|go_step|go_upon|(simp only[];go_simp))
 refine bodyPost_ret (by simp[results,Tryz.results53,go_sem, *];first|done|rfl) rfl ?_
 exact⟨rfl,trw⟩
set_option maxHeartbeats 4000000 in
theorem rnor_A (B:Nat) (e:Int) (A:Ask) (n:Int) (b:Box) (Q V T:Res) (SQ:RSQ n B e A Q V) (fV:Fine V) (hM:RMed A n b) (hv:V.q=0) (hl:b.lo=0) (hT:Is T (after V.q (realM (V.a-V.c) (V.a+V.c)))):RNG n B e A T Q (decide (V.a-V.c<0)) T.q:=by
 intro w Ab
 have hv1:(V.q != 0)=false:=by simpa using hv
 have hl1:(b.lo != 0)=false:=by simpa using hl
 have RO:RCl 121 #[.agg #[.int .i64 (V.a-V.c),.int .i64 (V.a+V.c)]] (realM (V.a-V.c) (V.a+V.c)):=fun w=>by
  have:=rRealRoot_any (V.a-V.c) (V.a+V.c) w
  rw[outR_quad]at this
  exact this
 have KE:=Lib.hid ((keep_any B V.q _ (fine_real (V.a-V.c) (V.a+V.c))).to hT)
 have PA:=Lib.hid (fun w=>rParts_yes V.a V.b V.c w fV.right)
 generalize realM (V.a-V.c) (V.a+V.c)=R at *
 have HM:=hM.says
 unfold RSQ at SQ
 unfold Ask.val at SQ HM ⊢
 have SQ:=Lib.hid SQ
 have HM:=Lib.hid HM
 have RO:=Lib.hid RO
 have hb:=fV.right
 obtain⟨⟨b1,b2,b3,b4⟩,b5,b6⟩:=hb
 clear hv hl hM hT fV
 have A1:=Ab.st
 have Ay:=tr_refl A1
 have Ar:=A1.cell
 have As:=A1.free
 have Ak:=A1.lt
 have B4:=own5 Ak
 go_enter Tryz.func53,Tryz.ntmps53
 go_wp2_with fail
 refine(SQ.out _ (Rt.turn Ab (Trn.kp Ay kpw))).mono ?_
 rintro e w1 ⟨rfl,A6⟩
 have A5:=A6.size_le
 (try simp at A5)
 have B2:=tn5 A6 (w.heap.size)
 have Aa:=tn5 A6 (w.heap.size+1)
 have Ae:=tn5 A6 (w.heap.size+1+1)
 obtain⟨A7,An,A2,Bq,Bz,Br⟩:=rkx Ab Ay kpw A6
 (try clear Ar As)
 go_wp2_with fail
 refine(HM.out B V.q _ (Rt.turn Ab (Trn.kp A7 kpw))).mono ?_
 rintro e w2 ⟨rfl,Ad⟩
 have A8:=Ad.size
 (try simp at A8)
 have Ah:=bl5 Ad (w.heap.size+1)
 have Aj:=bl5 Ad (w.heap.size+1+1)
 have Aw:=bl5 Ad (w1.heap.size)
 have Bn:=bl5 Ad (w1.heap.size+1)
 obtain⟨Ai,Bo,Ac,C4,C0,C6⟩:=rkb Ab A7 kpw Ad
 (try clear Br)
 go_wp2_with fail
 refine(PA.out _).mono ?_
 rintro e w3 ⟨rfl,Bs⟩
 have Ao:=Bs.size
 (try simp at Ao)
 have Ap:=bl5 Bs (w.heap.size+1)
 have Bb:=bl5 Bs (w.heap.size+1+1)
 have B3:=bl5 Bs (w1.heap.size)
 obtain⟨Bw,Ce,C3,Cq,Cj,Cf⟩:=rkb Ab Ai kpw Bs
 (try clear C6 C0)
 repeat (first|(with_reducible refine wp_markr 7 ?_)|go_values|go_skip|go_guarded|go_step|go_upon|(simp only[];go_simp))
 refine wp_named (fun w4 B6 => ?_)
 have B8:=congrArg (fun w=>w.heap.size) B6
 (try simp at B8)
 replace B8:=Nat.le_of_eq B8.symm
 have Bp:=Trn.kp Bw (show Kp w.heap.size w3 w4 from B6▸kpw)
 have Dp:=Bp.le
 have Co:=Rt.turn Ab Bp
 have C8:=Co.st
 have Gi:=C8.cell
 have Gk:=C8.free
 have Fx:=C8.lt
 have Gs:=own5 Fx
 have Bc:=cas B6 (w.heap.size+1) [.int .i64 0,.int .i64 0,.int .i64 0]
 have Bd:=cas B6 (w.heap.size+1+1) [.int .i64 0,.int .i64 0,.int .i64 0]
 have C2:=cas B6 (w1.heap.size) [.int .i64 Q.a,.int .i64 Q.b,.int .i64 Q.c]
 have Ch:=cas B6 (w3.heap.size) [.int .i64 (V.a-V.c),.int .i64 (V.a+V.c)]
 simp only[CAf,Nat.reduceAdd,and_true]at Bc Bd C2 Ch
 clear B6
 (try clear Ap Bb B3 Cf)
 go_wp2_with fail
 go_region_held3 (fun w'=>w'.cell? ⟨w1.heap.size,0,none⟩=some (.int .i64 Q.a)∧w'.cell? ⟨w1.heap.size,1,none⟩=some (.int .i64 Q.b)∧w'.cell? ⟨w1.heap.size,2,none⟩=some (.int .i64 Q.c)∧w'.cell? ⟨w3.heap.size,0,none⟩=some (.int .i64 (V.a-V.c))∧w'.cell? ⟨w3.heap.size,1,none⟩=some (.int .i64 (V.a+V.c))) (simp[*,go_sem]) (first|(go_at_call 121;refine(RO.out _).mono ?_;rintro e w5 ⟨rfl,Bg⟩;have Cb:=Bg.size;(try simp at Cb);have Cc:=bl5 Bg (w.heap.size+1);have Cd:=bl5 Bg (w.heap.size+1+1);have Ci:=bl5 Bg (w1.heap.size);have E5:=bl5 Bg (w3.heap.size);obtain⟨Cp,E8,E9,Ea,Dx,Du⟩:=rkb Ab Bp kpw Bg;(try clear Cg);(try clear Ck))|(go_at_call 119;refine(KE.out _ (St.turn A1 (Trn.kp Cp kpw))).mono ?_;rintro e w6 ⟨rfl,Bm⟩;have Dq:=Bm.size_le;(try simp at Dq);have Dv:=tn5 Bm (w.heap.size+1);have Dw:=tn5 Bm (w.heap.size+1+1);have E6:=tn5 Bm (w1.heap.size);have E7:=tn5 Bm (w3.heap.size);obtain⟨Gg,Ge,Gf,Gl,Gq,Gm⟩:=rkx Ab Cp kpw Bm;(try clear Du);(try clear Dx)))
 repeat' (first|go_values|go_skip|go_guarded|go_step|go_upon|(simp only[];go_simp))
 refine bodyPost_ret (by simp[results,Tryz.results53,go_sem, *];first|done|rfl) rfl ?_
 exact⟨rfl,trw⟩
theorem r_normal (B:Nat) (e:Int) (A:Ask) (n:Int) (b:Box) (hA:AskOk A) (hM:RMed A n b):RNG n B e A (norR e A b) (nnR e A b) (stopR e A b) (norR e A b).q:=by
 have IX:=r_index B e A n b hM
 obtain⟨N,hN⟩:=is_ex (idxR e b)
 have IX:=IX.to hN
 have fN:Fine N:=hN.fine (fine_idx _ _)
 obtain⟨S,hS⟩:=is_ex (after N.q (sideR A))
 have fS:Fine S:=hS.fine (fine_after _ (fine_side _))
 have SI:=r_side B N.q A hA S hS
 obtain⟨Q,hQ⟩:=is_ex (after S.q (ti N N))
 have fQ:Fine Q:=hQ.fine (fine_after _ (fine_ti _ _))
 obtain⟨U,hU⟩:=is_ex (after Q.q (ti S S))
 have fU:Fine U:=hU.fine (fine_after _ (fine_ti _ _))
 obtain⟨V,hV⟩:=is_ex (after U.q (mi Q U))
 have fV:Fine V:=hV.fine (fine_after _ (fine_mi _ _))
 have hsq:=sq_is hN hS hQ hU hV
 have SQ:RSQ n B e A Q V:=fun w L=>r_square B e A n N S Q U V IX SI fN fS fQ fU hQ hU hV w L
 by_cases hv:V.q=0
 ·have hnn:nnR e A b=Q:=by
   have h1:(nsqR e A b).q=0:=by rw[← hsq.out];exact hv
   have h2:S.q=0:=by
    have:=hv;rw[hV.out]at this
    have h3:=(after_ok this).1
    rw[hU.out]at h3
    have h4:=(after_ok h3).1
    rw[hQ.out]at h4
    exact(after_ok h4).1
   unfold nnR
   rw[if_pos h1,hQ.out,h2,after_zero,hN.out]
  rw[hnn]
  by_cases hl:b.lo=0
  ·obtain⟨e1,e2⟩:=nor_real hsq hv hl
   rw[e1,e2]
   exact rnor_A B e A n b Q V _ SQ fV hM hv hl (by unfold Is;rw[hv,after_zero])
  ·obtain⟨e1,e2⟩:=nor_root hsq hv hl
   rw[e1,e2]
   refine rnor_B B e A n b Q V _ (ro V) SQ hM hv hl ?_ (fine_ro _) (by unfold Is;rw[hv,after_zero])
   intro w
   have:=rRoot_any V.a V.b V.c w fV.right
   rw[outR_quad]at this
   rw[show ro V=rootR V.a V.b V.c from by unfold ro rootM onOne;rw[if_pos fV.right]]
   exact this
 ·have hnn:nnR e A b=noneR:=by
   unfold nnR
   rw[if_neg (by rw[← hsq.out];exact hv)]
  obtain⟨e1,e2⟩:=nor_bad hsq hv
  rw[hnn,e1,e2]
  have z:=fV.zero hv
  have k:=rnor_C B e A n Q V SQ hv
  obtain⟨h1,h2,h3,h4⟩:=quad_bad V.q
  have za:V.a=0:=by rw[z];exact h1
  have zb:V.b=0:=by rw[z];exact h2
  have zc:V.c=0:=by rw[z];exact h3
  have e0:noneR.a=0∧noneR.b=0∧noneR.c=0:=by unfold noneR;exact⟨(quad_good _ _ _).1,(quad_good _ _ _).2.1,(quad_good _ _ _).2.2.1⟩
  intro w L
  have k:=k w L
  rw[e0.1,e0.2.1,e0.2.2]at k ⊢
  rw[za,zb,zc]
  exact k
end Go.Proofs.YticobgianbecpaaGreatDoor
namespace Go.Proofs.YticobgianbecpaaGreatDoor
open Go Go.Sort Go.RowKit
set_option maxHeartbeats 2000000 in
theorem r_adm (B:Nat) (e:Int) (A:Ask) (n:Int) (b:Box) (hA:AskOk A) (hM:RMed A n b) :
  RLG 52 #[.pointer (some ⟨B,0,none⟩),A.val,.int .i64 n] B e A (admR e A b):=by
 intro w Ab
 have NO:=r_normal B e A n b hA hM
 unfold RNG at NO
 by_cases hp:A.po=0
 ·have hp1:(A.po==0)=true:=by simpa using hp
  rw[adm_refs hp]
  generalize norR e A b=Q at *
  generalize nnR e A b=M at *
  generalize stopR e A b=st at *
  unfold Ask.val at NO ⊢
  have NO:=Lib.hid NO
  clear hA hM hp
  have A1:=Ab.st
  have Ay:=tr_refl A1
  have Ar:=A1.cell
  have As:=A1.free
  have Ak:=A1.lt
  have B4:=own5 Ak
  go_enter Tryz.func52,Tryz.ntmps52
  go_wp2_with fail
  refine(NO.out _ (Rt.turn Ab (Trn.kp Ay kpw))).mono ?_
  rintro e w1 ⟨rfl,A6⟩
  have A5:=A6.size_le
  (try simp at A5)
  have B2:=tn5 A6 (w.heap.size)
  have Aa:=tn5 A6 (w.heap.size+1)
  have A7:=Trn.nx Ay kpw A6
  have Bq:=A7.le
  have An:=Rt.turn Ab A7
  have A2:=An.st
  have At:=A2.cell
  have Au:=A2.free
  have Aq:=A2.lt
  have Av:=own5 Aq
  (try clear Ar As)
  repeat' (first|go_values|go_skip|go_guarded|go_step|go_upon|(simp only[];go_simp))
  refine bodyPost_ret (by simp[results,Tryz.results52,go_sem, *];first|done|rfl) rfl ?_
  exact⟨rfl,trw⟩
 ·have hp1:(A.po==0)=false:=by simpa using hp
  obtain⟨Y,hY⟩:=is_ex (after (norR e A b).q (qt (nnR e A b) (norR e A b)))
  have BY:=(r_by B (norR e A b).q _ _ (fine_nn e A b) (fine_nor e A b)).to hY
  rw[adm_ref hp,← hY.out]
  clear hY
  generalize norR e A b=Q at *
  generalize nnR e A b=M at *
  generalize stopR e A b=st at *
  unfold Ask.val at NO ⊢
  have NO:=Lib.hid NO
  have BY:=Lib.hid BY
  clear hA hM
  have A1:=Ab.st
  have Ay:=tr_refl A1
  have Ar:=A1.cell
  have As:=A1.free
  have Ak:=A1.lt
  have B4:=own5 Ak
  go_enter Tryz.func52,Tryz.ntmps52
  go_wp2_with fail
  refine(NO.out _ (Rt.turn Ab (Trn.kp Ay kpw))).mono ?_
  rintro e w1 ⟨rfl,A6⟩
  have A5:=A6.size_le
  (try simp at A5)
  have B2:=tn5 A6 (w.heap.size)
  have Aa:=tn5 A6 (w.heap.size+1)
  have A7:=Trn.nx Ay kpw A6
  have Bq:=A7.le
  have An:=Rt.turn Ab A7
  have A2:=An.st
  have At:=A2.cell
  have Au:=A2.free
  have Aq:=A2.lt
  have Av:=own5 Aq
  (try clear Ar As)
  go_wp2_with fail
  refine(BY.out _ (St.turn A1 (Trn.kp A7 kpw))).mono ?_
  rintro e w2 ⟨rfl,A0⟩
  have A8:=A0.size_le
  (try simp at A8)
  have Ah:=tn5 A0 (w.heap.size+1)
  obtain⟨Ai,Bo,Ac,C4,C0,C6⟩:=rkx Ab A7 kpw A0
  (try clear At Au Av)
  repeat' (first|go_values|go_skip|go_guarded|go_step|go_upon|(simp only[];go_simp))
  refine bodyPost_ret (by simp[results,Tryz.results52,go_sem, *];first|done|rfl) rfl ?_
  exact⟨rfl,trw⟩
end Go.Proofs.YticobgianbecpaaGreatDoor
