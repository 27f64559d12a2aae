/- Sizes and energies of balls, and how shares are reckoned: the reference's walks. -/
import Derived.Test.YtjbfaaolfonmaaaGreatKRefl
import Derived.Test.YtjbfaaolfonmaaaGreatKRa
namespace Go.Proofs.YtjbfaaolfonmaaaGreat
open Go Go.Sort Go.RowKit
set_option maxHeartbeats 1000000 in
theorem rsize_any (x y r:Int) (w:World) (h:Right x y r) :
  Calls Tryz.prog 139 #[.agg #[.int .i64 x,.int .i64 y,.int .i64 r]] w fun e w'=>e = .returned (.agg #[.int .i64 (max 0 (rt (x*x+y*y)-r)),.int .i64 (rtu (x*x+y*y)+r)])∧Below w.heap.size w w':=by
 obtain⟨h1,h2⟩:=h.sh
 obtain⟨_,r0,r1⟩:=h
 have q:=h1.sq h2
 have u1:=rtu_bd q.1 (by omega)
 have t0:=rt_nonneg (x*x+y*y)
 have t1:=rt_lt31 q.1 (by omega)
 have UP:=Lib.hid (fun w=>Up_any x y r w h1 h2)
 have DN:=Lib.hid (fun w=>Down_any x y r w h1 h2)
 have hm:(0<rt (x*x+y*y)-r∧max 0 (rt (x*x+y*y)-r)=rt (x*x+y*y)-r)∨(rt (x*x+y*y)-r≤0∧max 0 (rt (x*x+y*y)-r)=0):=by omega
 rcases hm with⟨h,hm⟩|⟨h,hm⟩
 all_goals
  rw[hm]
  clear hm
  generalize rt (x*x+y*y)=t at *
  generalize rtu (x*x+y*y)=u at *
  go_enter Tryz.func139,Tryz.ntmps139
  go_wp2_with fail
  refine calm 12 (by kernel_rfl) (by kernel_rfl) fun hG => ?_
  have Ad:=hG (w.heap.size) lto
  have A1:=hG (w.heap.size+1) lto
  clear hG
  simp only[List.take_succ_cons,List.take_zero,List.drop_succ_cons,List.drop_zero]
  repeat (go_big_quiet_step (first|(go_at_call 181;with_reducible exact calm_call DN.out)|(go_at_call 141;with_reducible exact calm_call UP.out)))
  refine wpQuiet_nil ?_
  intro w1 A0
  clear Ad A1
  have A4:=A0.size
  (try simp at A4)
  have Ae:=bl5 A0 (w.heap.size)
  have A5:=bl5 A0 (w.heap.size+1)
  repeat' (first|go_values|go_skip|go_guarded|go_step|go_upon|(simp only[];go_simp))
  (with_reducible show bodyPost _ _ _ _ _ _);refine bodyPost_ret (by simp[results,Tryz.results139,go_sem, *];first|done|rfl) rfl ?_
  exact⟨rfl,blw⟩
set_option maxHeartbeats 4000000 in
theorem renergy_any (R:Res) (w:World) (h:Fine R) :
  Calls Tryz.prog 83 #[.agg #[.int .i64 R.a,.int .i64 R.b,.int .i64 R.c]] w fun e w'=>e = .returned (.agg #[.int .i64 (enRL R),.int .i64 (enRH R)])∧Below w.heap.size w w':=by
 unfold enRL enRH
 have h:=h.right
 generalize R.a=x at *
 generalize R.b=y at *
 generalize R.c=r at *
 have e1:enL x y r=max 0 (rt (x*x+y*y)-r)*max 0 (rt (x*x+y*y)-r)/1048576:=by unfold enL;rfl
 have e2:enH x y r = -(-((rtu (x*x+y*y)+r)*(rtu (x*x+y*y)+r))/1048576):=by unfold enH;rfl
 have bd:=en_bd h
 have c:=fun w=>rsize_any x y r w h
 rw[e1,e2]
 clear e1 e2
 obtain⟨L,hL⟩:∃L,max 0 (rt (x*x+y*y)-r)=L:=⟨_,rfl⟩
 obtain⟨U,hU⟩:∃U,rtu (x*x+y*y)+r=U:=⟨_,rfl⟩
 rw[hL,hU]at c bd ⊢
 obtain⟨b1,b2,b3,b4⟩:=bd
 have C:=Lib.hid c
 have m1:=mul_bd b1 b2 b1 b2
 have m2:=mul_bd b3 b4 b3 b4
 have W1:IntKind.i64.wrap (L*L)=L*L:=IntWalk.i64_in _ ⟨by omega,by omega⟩
 have W2:IntKind.i64.wrap (U*U)=U*U:=IntWalk.i64_in _ ⟨by omega,by omega⟩
 have CF:=Lib.hid (fun w=>bFloor_any (L*L) 1048576 w (by omega) (by omega) (by omega) (by omega))
 have CC:=Lib.hid (fun w=>bCeil_any (U*U) 1048576 w (by omega) (by omega) (by omega) (by omega))
 clear hL hU c h
 go_enter Tryz.func83,Tryz.ntmps83
 go_wp2_with fail
 refine(C.out _).mono ?_
 rintro e w1 ⟨rfl,A0⟩
 have A4:=A0.size
 (try simp at A4)
 have A5:=bl5 A0 (w.heap.size+1)
 go_wp2_with fail
 refine calm 13 (by kernel_rfl) (by kernel_rfl) fun hG => ?_
 have A1:=hG (w.heap.size+1) lto
 have Af:=hG (w1.heap.size) lto
 clear hG
 simp only[List.take_succ_cons,List.take_zero,List.drop_succ_cons,List.drop_zero]
 repeat (go_big_quiet_step (first|(go_at_call 33;with_reducible exact calm_same CF.out)|(go_at_call 88;with_reducible exact calm_same CC.out)))
 refine wpQuiet_nil ?_
 intro w2 A2
 clear A1 Af
 have A7:=A2.size
 (try simp at A7)
 have A8:=bl5 A2 (w.heap.size+1)
 have Ag:=bl5 A2 (w1.heap.size)
 repeat' (first|go_values|go_skip|go_guarded|go_step|go_upon|(simp only[];go_simp))
 (with_reducible show bodyPost _ _ _ _ _ _);refine bodyPost_ret (by simp[results,Tryz.results83,go_sem, *];first|done|rfl) rfl ?_
 exact⟨rfl,blw⟩
set_option maxHeartbeats 4000000 in
theorem r7cut_any (a b:Int) (w:World):Calls Tryz.prog 87 #[.int .i64 a,.int .i64 b] w fun e w'=>e = .returned (.agg #[.int .i64 (clamp a),.int .i64 (clamp b)])∧Below w.heap.size w w':=by
 have h:∀n:Int,(n < -1048576∧clamp n = -1048576)∨(n = -1048576∧clamp n = -1048576)∨(-1048576<n∧n<1048576∧clamp n=n)∨(n=1048576∧clamp n=1048576)∨(1048576<n∧clamp n=1048576):=by
  intro n;unfold clamp;omega
 rcases h a with⟨h1,e1⟩|⟨h1,e1⟩|⟨h1,h2,e1⟩|⟨h1,e1⟩|⟨h1,e1⟩<;>rcases h b with⟨g1,e2⟩|⟨g1,e2⟩|⟨g1,g2,e2⟩|⟨g1,e2⟩|⟨g1,e2⟩
 all_goals
  rw[e1,e2]
  clear e1 e2
  (try subst h1)
  (try subst g1)
  go_enter Tryz.func87,Tryz.ntmps87
  repeat' (first|go_values|go_skip|go_guarded|go_step|go_upon|(simp only[];go_simp))
  (with_reducible show bodyPost _ _ _ _ _ _);refine bodyPost_ret (by simp[results,Tryz.results87,go_sem, *];first|done|rfl) rfl ?_
  exact⟨rfl,blw⟩
set_option maxHeartbeats 2000000 in
theorem shared_any (lo hi A B:Int) (w:World) (hA:0<A) (hAB:A≤B) (hB:B≤4398046511104) (h:lo≤hi) (h1 : -134217728≤lo) (h2:hi≤134217728) :
  Calls Tryz.prog 89 #[.agg #[.int .i64 lo,.int .i64 hi],.agg #[.int .i64 A,.int .i64 B]] w fun e w' =>
   e = .returned (.agg #[.int .i64 (clamp (loC lo hi A B)),.int .i64 (clamp (hiC lo hi A B))])∧Below w.heap.size w w':=by
 rw[loC_is hA hAB h,hiC_is hA hAB h]
 unfold cdv
 have W1:IntKind.i64.wrap (-2*hi) = -2*hi:=IntWalk.i64_in _ ⟨by omega,by omega⟩
 have W2:IntKind.i64.wrap (-2*lo) = -2*lo:=IntWalk.i64_in _ ⟨by omega,by omega⟩
 have W3:wrap64 (-2*hi) = -2*hi:=IntWalk.wrap64_in _ ⟨by omega,by omega⟩
 have W4:wrap64 (-2*lo) = -2*lo:=IntWalk.wrap64_in _ ⟨by omega,by omega⟩
 have FL:=Lib.hid (fun d w h1 h2=>bFloor_any (-2*hi*1048576) d w (by omega) (by omega) h1 h2)
 have CE:=Lib.hid (fun d w h1 h2=>bCeil_any (-2*lo*1048576) d w (by omega) (by omega) h1 h2)
 have CU:=Lib.hid r7cut_any
 by_cases s1:0 ≤ -2*hi
 ·have s2:0 ≤ -2*lo:=by omega
  rw[if_pos s1,if_pos s2]
  go_enter Tryz.func89,Tryz.ntmps89
  go_wp2_with fail
  refine calm_all (by kernel_rfl) (by kernel_rfl) fun hG => ?_
  have Ad:=hG (w.heap.size) lto
  have A1:=hG (w.heap.size+1) lto
  have A3:=hG (w.heap.size+1+1) lto
  clear hG
  repeat (go_big_quiet_step (first|fail))
  refine wpQuiet_nil ?_
  intro w1 A0
  clear Ad A1 A3
  have A4:=A0.size
  (try simp at A4)
  have Ae:=bl5 A0 (w.heap.size)
  have A5:=bl5 A0 (w.heap.size+1)
  have Aa:=bl5 A0 (w.heap.size+1+1)
  go_wp2_with fail
  refine calm_all (by kernel_rfl) (by kernel_rfl) fun hG => ?_
  have A1:=hG (w.heap.size+1) lto
  have A3:=hG (w.heap.size+1+1) lto
  clear hG
  repeat (go_big_quiet_step (first|fail))
  refine wpQuiet_nil ?_
  intro w2 A2
  clear A1 A3
  have A7:=A2.size
  (try simp at A7)
  have A8:=bl5 A2 (w.heap.size+1)
  have Ab:=bl5 A2 (w.heap.size+1+1)
  go_wp2_with fail
  refine(FL.out B _ (by omega) (by omega)).mono ?_
  rintro e w' ⟨rfl,rfl⟩
  go_wp2_with fail
  refine(CE.out A _ (by omega) (by omega)).mono ?_
  rintro e w' ⟨rfl,rfl⟩
  go_wp2_with fail
  refine(CU.out _ _ _).mono ?_
  rintro e w3 ⟨rfl,A6⟩
  have A9:=A6.size
  (try simp at A9)
  have Ac:=bl5 A6 (w.heap.size+1+1)
  repeat' (first|go_values|go_skip|go_guarded|go_step|go_upon|(simp only[];go_simp))
  (with_reducible show bodyPost _ _ _ _ _ _);refine bodyPost_ret (by simp[results,Tryz.results89,go_sem, *];first|done|rfl) rfl ?_
  exact⟨rfl,blw⟩
 ·by_cases s2:0 ≤ -2*lo
  ·rw[if_neg s1,if_pos s2]
   go_enter Tryz.func89,Tryz.ntmps89
   go_wp2_with fail
   refine calm_all (by kernel_rfl) (by kernel_rfl) fun hG => ?_
   have Ad:=hG (w.heap.size) lto
   have A1:=hG (w.heap.size+1) lto
   have A3:=hG (w.heap.size+1+1) lto
   clear hG
   repeat (go_big_quiet_step (first|fail))
   refine wpQuiet_nil ?_
   intro w1 A0
   clear Ad A1 A3
   have A4:=A0.size
   (try simp at A4)
   have Ae:=bl5 A0 (w.heap.size)
   have A5:=bl5 A0 (w.heap.size+1)
   have Aa:=bl5 A0 (w.heap.size+1+1)
   go_wp2_with fail
   refine calm_all (by kernel_rfl) (by kernel_rfl) fun hG => ?_
   have A1:=hG (w.heap.size+1) lto
   have A3:=hG (w.heap.size+1+1) lto
   clear hG
   repeat (go_big_quiet_step (first|fail))
   refine wpQuiet_nil ?_
   intro w2 A2
   clear A1 A3
   have A7:=A2.size
   (try simp at A7)
   have A8:=bl5 A2 (w.heap.size+1)
   have Ab:=bl5 A2 (w.heap.size+1+1)
   go_wp2_with fail
   refine(FL.out A _ (by omega) (by omega)).mono ?_
   rintro e w' ⟨rfl,rfl⟩
   go_wp2_with fail
   refine(CE.out A _ (by omega) (by omega)).mono ?_
   rintro e w' ⟨rfl,rfl⟩
   go_wp2_with fail
   refine(CU.out _ _ _).mono ?_
   rintro e w3 ⟨rfl,A6⟩
   have A9:=A6.size
   (try simp at A9)
   have Ac:=bl5 A6 (w.heap.size+1+1)
   repeat' (first|go_values|go_skip|go_guarded|go_step|go_upon|(simp only[];go_simp))
   (with_reducible show bodyPost _ _ _ _ _ _);refine bodyPost_ret (by simp[results,Tryz.results89,go_sem, *];first|done|rfl) rfl ?_
   exact⟨rfl,blw⟩
  ·rw[if_neg s1,if_neg s2]
   go_enter Tryz.func89,Tryz.ntmps89
   go_wp2_with fail
   refine calm_all (by kernel_rfl) (by kernel_rfl) fun hG => ?_
   have Ad:=hG (w.heap.size) lto
   have A1:=hG (w.heap.size+1) lto
   have A3:=hG (w.heap.size+1+1) lto
   clear hG
   repeat (go_big_quiet_step (first|fail))
   refine wpQuiet_nil ?_
   intro w1 A0
   clear Ad A1 A3
   have A4:=A0.size
   (try simp at A4)
   have Ae:=bl5 A0 (w.heap.size)
   have A5:=bl5 A0 (w.heap.size+1)
   have Aa:=bl5 A0 (w.heap.size+1+1)
   go_wp2_with fail
   refine calm_all (by kernel_rfl) (by kernel_rfl) fun hG => ?_
   have A1:=hG (w.heap.size+1) lto
   have A3:=hG (w.heap.size+1+1) lto
   clear hG
   repeat (go_big_quiet_step (first|fail))
   refine wpQuiet_nil ?_
   intro w2 A2
   clear A1 A3
   have A7:=A2.size
   (try simp at A7)
   have A8:=bl5 A2 (w.heap.size+1)
   have Ab:=bl5 A2 (w.heap.size+1+1)
   go_wp2_with fail
   refine(FL.out A _ (by omega) (by omega)).mono ?_
   rintro e w' ⟨rfl,rfl⟩
   go_wp2_with fail
   refine(CE.out B _ (by omega) (by omega)).mono ?_
   rintro e w' ⟨rfl,rfl⟩
   go_wp2_with fail
   refine(CU.out _ _ _).mono ?_
   rintro e w3 ⟨rfl,A6⟩
   have A9:=A6.size
   (try simp at A9)
   have Ac:=bl5 A6 (w.heap.size+1+1)
   repeat' (first|go_values|go_skip|go_guarded|go_step|go_upon|(simp only[];go_simp))
   (with_reducible show bodyPost _ _ _ _ _ _);refine bodyPost_ret (by simp[results,Tryz.results89,go_sem, *];first|done|rfl) rfl ?_
   exact⟨rfl,blw⟩
end Go.Proofs.YtjbfaaolfonmaaaGreat
