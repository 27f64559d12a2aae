/- Joined: Roots Roots2 Roots3. -/
import Derived.Test.YticobgianbecpaaGreatDoorKQuo
import Derived.Test.YticobgianbecpaaGreatDoorKCalm
import Derived.Test.YticobgianbecpaaGreatDoorKFrac
namespace Go.Proofs.YticobgianbecpaaGreatDoor
open Go.RowKit
set_option maxHeartbeats 2000000 in
theorem root1_zero (a b r m:Int) (w:World) (h:m≤r)
  (cd:∀w,Calls Tryz.prog 163 #[.agg #[.int .i64 a,.int .i64 b]] w fun e w'=>e = .returned (.int .i64 m)∧Below w.heap.size w w') :
  Calls Tryz.prog 162 #[.agg #[.int .i64 a,.int .i64 b,.int .i64 r]] w fun e w'=>e = .returned (.tuple #[.agg #[.int .i64 a,.int .i64 b,.int .i64 r],.int .i64 9])∧Below w.heap.size w w':=by
 have CD:=Lib.hid cd
 clear cd
 go_enter Tryz.func162,Tryz.ntmps162
 go_wp2_with fail
 refine(CD.out _).mono ?_
 rintro e w1 ⟨rfl,A0⟩
 have A5:=A0.size
 (try simp at A5)
 have Ad:=bl5 A0 (w.heap.size)
 have A6:=bl5 A0 (w.heap.size+1)
 go_wp2
 refine bodyPost_ret (by simp[results,Tryz.results162,go_sem, *];first|done|rfl) rfl ?_
 exact⟨rfl,blw⟩
set_option maxHeartbeats 2000000 in
theorem root1_clash (a b r m:Int) (w:World) (h:r<m) (ha:a<0) (hb : -r≤b∧b≤r) (r0:0≤r) (r1:r≤67108864) (hr:r≠0)
  (cd:∀w,Calls Tryz.prog 163 #[.agg #[.int .i64 a,.int .i64 b]] w fun e w'=>e = .returned (.int .i64 m)∧Below w.heap.size w w') :
  Calls Tryz.prog 162 #[.agg #[.int .i64 a,.int .i64 b,.int .i64 r]] w fun e w'=>e = .returned (.tuple #[.agg #[.int .i64 a,.int .i64 b,.int .i64 r],.int .i64 14])∧Below w.heap.size w w':=by
 have CD:=Lib.hid cd
 clear cd
 have s1:(decide (-r≤b)&&decide (b≤r))=true:=by simp[hb.1,hb.2]
 have hr':(r != 0)=true:=by simpa using hr
 clear hr
 go_enter Tryz.func162,Tryz.ntmps162
 go_wp2_with fail
 refine(CD.out _).mono ?_
 rintro e w1 ⟨rfl,A0⟩
 have A5:=A0.size
 (try simp at A5)
 have Ad:=bl5 A0 (w.heap.size)
 have A6:=bl5 A0 (w.heap.size+1)
 go_wp2_with fail
 refine(small_any _ _ _ (by omega) (by omega)).mono ?_
 rintro e w' ⟨rfl,rfl⟩
 rw[s1]
 go_wp2
 refine bodyPost_ret (by simp[results,Tryz.results162,go_sem, *];first|done|rfl) rfl ?_
 exact⟨rfl,blw⟩
structure RootNums (a b r m w0 Q V:Int) (W2:Nat):Prop where
 m0:0≤m
 m1:m≤1073741824
 w1:1≤w0
 w2:w0≤1073741824
 eW:((W2:Nat):Int)=2*w0
 V1:1≤V
 V2:V≤1073741824
 a1 : -67108864≤a∧a≤67108864
 b1 : -67108864≤b∧b≤67108864
 r0:0≤r
 r1:r≤67108864
set_option maxHeartbeats 4000000 in
theorem root1_pos (a b r m w0 Q V:Int) (q:Bool) (W2:Nat) (w:World) (N:RootNums a b r m w0 Q V W2) (h:r<m) (ha:0≤a)
  (cd:∀w,Calls Tryz.prog 163 #[.agg #[.int .i64 a,.int .i64 b]] w fun e w'=>e = .returned (.int .i64 m)∧Below w.heap.size w w')
  (cr:∀w,Calls Tryz.prog 165 #[.int .i64 ((m+a)*524288)] w fun e w'=>e = .returned (.int .i64 w0)∧w'=w)
  (cq:∀w,Calls Tryz.prog 167 #[.int .i64 b,.int .i64 1048576,.int .i64 (2*w0)] w fun e w'=>e = .returned (.tuple #[.int .i64 Q,.bool q])∧∃k,w'=w.drewN k)
  (cv:∀w,Calls Tryz.prog 165 #[.int .i64 (m*1048576)] w fun e w'=>e = .returned (.int .i64 V)∧w'=w) :
  Calls Tryz.prog 162 #[.agg #[.int .i64 a,.int .i64 b,.int .i64 r]] w fun e w'=>e = .returned (.tuple #[.agg #[.int .i64 w0,.int .i64 Q,.int .i64 (-(-(r*1048576)/V)+3 + -(-1048576/w0))],.int .i64 0])∧Below w.heap.size w w':=by
 obtain⟨m0,m1,w1,w2,eW,V1,V2,a1,b1,r0,r1⟩:=N
 have CD:=Lib.hid cd
 have CR:=Lib.hid cr
 have CQ:=Lib.hid cq
 have CV:=Lib.hid cv
 have na:((a.natAbs:Nat):Int)=a:=by omega
 have SA:=Lib.hid (fun w=>size_any a w (by omega) (by omega))
 rw[na]at SA
 have CE:=Lib.hid (fun w=>ceil_any (r*1048576) V w (by omega) (by omega) (by omega) (by omega))
 have CF:=Lib.hid (fun w=>ceil_any 1048576 w0 w (by omega) (by omega) (by omega) (by omega))
 have B1 : -70368744177664 ≤ -(-(r*1048576)/V) ∧ -(-(r*1048576)/V)≤70368744177664:=by
  have:=ediv_lo (n := -(r*1048576)) (lo := -70368744177664) V1 (by omega) (by omega)
  have:=ediv_hi (n := -(r*1048576)) (hi:=70368744177664) V1 (by omega) (by omega)
  omega
 have B2 : -1048576 ≤ -(-1048576/w0) ∧ -(-1048576/w0)≤1048576:=by
  have:=ediv_lo (n := -1048576) (lo := -1048576) w1 (by omega) (by omega)
  have:=ediv_hi (n := -1048576) (hi:=1048576) w1 (by omega) (by omega)
  omega
 generalize -(-(r*1048576)/V)=E at *
 generalize -(-1048576/w0)=F at *
 clear cd cr cq cv na eW
 have e1:IntKind.i64.wrap (r*1048576)=r*1048576:=IntWalk.i64_in _ (by omega)
 have e2:IntKind.i64.wrap (m*1048576)=m*1048576:=IntWalk.i64_in _ (by omega)
 go_enter Tryz.func162,Tryz.ntmps162
 go_wp2_with fail
 refine(CD.out _).mono ?_
 rintro e w1 ⟨rfl,A0⟩
 have A5:=A0.size
 (try simp at A5)
 have Ad:=bl5 A0 (w.heap.size)
 have A6:=bl5 A0 (w.heap.size+1)
 go_wp2_with fail
 refine(SA.out _).mono ?_
 rintro e w' ⟨rfl,rfl⟩
 go_wp2_with fail
 refine(CR.out _).mono ?_
 rintro e w' ⟨rfl,rfl⟩
 go_wp2_with fail
 refine(drew_bel (CQ.out _)).mono ?_
 rintro e w2 ⟨rfl,A2⟩
 have A7:=A2.size
 (try simp at A7)
 have Ah:=bl5 A2 (w.heap.size)
 have A8:=bl5 A2 (w.heap.size+1)
 go_wp2_with fail
 refine calm 13 (by kernel_rfl) (by kernel_rfl) fun hG => ?_
 have A9:=hG (w.heap.size) lto
 have A3:=hG (w.heap.size+1) lto
 have Aa:=hG (w2.heap.size) lto
 clear hG
 simp only[List.take_succ_cons,List.take_zero,List.drop_succ_cons,List.drop_zero]
 repeat (go_big_quiet_step (first|(go_at_call 165;with_reducible exact calm_same CV.out)|(go_at_call 111;first|with_reducible exact calm_same CE.out|with_reducible exact calm_same CF.out)))
 refine wpQuiet_nil ?_
 intro w3 A1
 clear A9 A3 Aa
 have Ab:=A1.size
 (try simp at Ab)
 have Ai:=bl5 A1 (w.heap.size)
 have Ac:=bl5 A1 (w.heap.size+1)
 have Ag:=bl5 A1 (w2.heap.size)
 go_wp2
 refine bodyPost_ret (by simp[results,Tryz.results162,go_sem, *];first|done|rfl) rfl ?_
 exact⟨rfl,blw⟩
set_option maxHeartbeats 4000000 in
theorem root1_neg (a b r m w0 Q0 Q V y0:Int) (q0 q:Bool) (W2:Nat) (w:World) (N:RootNums a b r m w0 Q V W2) (h:r<m) (ha:a<0) (hb:(¬(-r≤b∧b≤r))∨r=0) (hy:(0≤b∧y0=w0)∨(b<0∧y0 = -w0))
  (cd:∀w,Calls Tryz.prog 163 #[.agg #[.int .i64 a,.int .i64 b]] w fun e w'=>e = .returned (.int .i64 m)∧Below w.heap.size w w')
  (cr:∀w,Calls Tryz.prog 165 #[.int .i64 ((m + -a)*524288)] w fun e w'=>e = .returned (.int .i64 w0)∧w'=w)
  (cp:∀w,Calls Tryz.prog 167 #[.int .i64 b,.int .i64 1048576,.int .i64 (2*w0)] w fun e w'=>e = .returned (.tuple #[.int .i64 Q0,.bool q0])∧∃k,w'=w.drewN k)
  (cq:∀w,Calls Tryz.prog 167 #[.int .i64 (b.natAbs:Nat),.int .i64 1048576,.int .i64 (2*w0)] w fun e w'=>e = .returned (.tuple #[.int .i64 Q,.bool q])∧∃k,w'=w.drewN k)
  (cv:∀w,Calls Tryz.prog 165 #[.int .i64 (m*1048576)] w fun e w'=>e = .returned (.int .i64 V)∧w'=w) :
  Calls Tryz.prog 162 #[.agg #[.int .i64 a,.int .i64 b,.int .i64 r]] w fun e w'=>e = .returned (.tuple #[.agg #[.int .i64 Q,.int .i64 y0,.int .i64 (-(-(r*1048576)/V)+3 + -(-1048576/w0))],.int .i64 0])∧Below w.heap.size w w':=by
 obtain⟨m0,m1,w1,w2,eW,V1,V2,a1,b1,r0,r1⟩:=N
 have CD:=Lib.hid cd
 have CR:=Lib.hid cr
 have CP:=Lib.hid cp
 have CQ:=Lib.hid cq
 have CV:=Lib.hid cv
 have na:((a.natAbs:Nat):Int) = -a:=by omega
 have SA:=Lib.hid (fun w=>size_any a w (by omega) (by omega))
 have SB:=Lib.hid (fun w=>size_any b w (by omega) (by omega))
 rw[na]at SA
 have CE:=Lib.hid (fun w=>ceil_any (r*1048576) V w (by omega) (by omega) (by omega) (by omega))
 have CF:=Lib.hid (fun w=>ceil_any 1048576 w0 w (by omega) (by omega) (by omega) (by omega))
 have B1 : -70368744177664 ≤ -(-(r*1048576)/V) ∧ -(-(r*1048576)/V)≤70368744177664:=by
  have:=ediv_lo (n := -(r*1048576)) (lo := -70368744177664) V1 (by omega) (by omega)
  have:=ediv_hi (n := -(r*1048576)) (hi:=70368744177664) V1 (by omega) (by omega)
  omega
 have B2 : -1048576 ≤ -(-1048576/w0) ∧ -(-1048576/w0)≤1048576:=by
  have:=ediv_lo (n := -1048576) (lo := -1048576) w1 (by omega) (by omega)
  have:=ediv_hi (n := -1048576) (hi:=1048576) w1 (by omega) (by omega)
  omega
 generalize -(-(r*1048576)/V)=E at *
 generalize -(-1048576/w0)=F at *
 clear cd cr cp cq cv na eW
 have e1:IntKind.i64.wrap (r*1048576)=r*1048576:=IntWalk.i64_in _ (by omega)
 have e2:IntKind.i64.wrap (m*1048576)=m*1048576:=IntWalk.i64_in _ (by omega)
 obtain⟨s,hs⟩:∃s,(decide (-r≤b)&&decide (b≤r))=s:=⟨_,rfl⟩
 have hsr:s=false∨(s=true∧(r != 0)=false):=by
  rcases hb with hb|hb
  ·left;rw[← hs,Bool.eq_false_iff];simp;omega
  ·cases s
   ·exact .inl rfl
   ·exact .inr ⟨rfl,by simpa using hb⟩
 have HS:=Lib.hid hs
 clear hs hb
 rcases hy with⟨hy,rfl⟩|⟨hy,rfl⟩<;>rcases hsr with rfl|⟨rfl,hr0⟩
 ·
  go_enter Tryz.func162,Tryz.ntmps162
  go_wp2_with fail
  refine(CD.out _).mono ?_
  rintro e w1 ⟨rfl,A0⟩
  have A5:=A0.size
  (try simp at A5)
  have Ad:=bl5 A0 (w.heap.size)
  have A6:=bl5 A0 (w.heap.size+1)
  go_wp2_with fail
  refine(small_any _ _ _ (by omega) (by omega)).mono ?_
  rintro e w' ⟨rfl,rfl⟩
  rw[HS.out]
  go_wp2_with fail
  refine(SA.out _).mono ?_
  rintro e w' ⟨rfl,rfl⟩
  go_wp2_with fail
  refine(CR.out _).mono ?_
  rintro e w' ⟨rfl,rfl⟩
  go_wp2_with fail
  refine(drew_bel (CP.out _)).mono ?_
  rintro e w2 ⟨rfl,A2⟩
  have A7:=A2.size
  (try simp at A7)
  have Ah:=bl5 A2 (w.heap.size)
  have A8:=bl5 A2 (w.heap.size+1)
  go_wp2_with fail
  refine(SB.out _).mono ?_
  rintro e w' ⟨rfl,rfl⟩
  go_wp2_with fail
  refine(drew_bel (CQ.out _)).mono ?_
  rintro e w3 ⟨rfl,A1⟩
  have Ab:=A1.size
  (try simp at Ab)
  have Ai:=bl5 A1 (w.heap.size)
  have Ac:=bl5 A1 (w.heap.size+1)
  have Ag:=bl5 A1 (w2.heap.size)
  go_wp2_with fail
  refine calm 13 (by kernel_rfl) (by kernel_rfl) fun hG => ?_
  have A9:=hG (w.heap.size) lto
  have A3:=hG (w.heap.size+1) lto
  have Aa:=hG (w2.heap.size) lto
  clear hG
  simp only[List.take_succ_cons,List.take_zero,List.drop_succ_cons,List.drop_zero]
  repeat (go_big_quiet_step (first|(go_at_call 165;with_reducible exact calm_same CV.out)|(go_at_call 111;first|with_reducible exact calm_same CE.out|with_reducible exact calm_same CF.out)))
  refine wpQuiet_nil ?_
  intro w4 A4
  clear A9 A3 Aa
  have Ae:=A4.size
  (try simp at Ae)
  have Ak:=bl5 A4 (w.heap.size)
  have Af:=bl5 A4 (w.heap.size+1)
  have Aj:=bl5 A4 (w2.heap.size)
  go_wp2
  refine bodyPost_ret (by simp[results,Tryz.results162,go_sem, *];first|done|rfl) rfl ?_
  exact⟨rfl,blw⟩
 ·
  go_enter Tryz.func162,Tryz.ntmps162
  go_wp2_with fail
  refine(CD.out _).mono ?_
  rintro e w1 ⟨rfl,A0⟩
  have A5:=A0.size
  (try simp at A5)
  have Ad:=bl5 A0 (w.heap.size)
  have A6:=bl5 A0 (w.heap.size+1)
  go_wp2_with fail
  refine(small_any _ _ _ (by omega) (by omega)).mono ?_
  rintro e w' ⟨rfl,rfl⟩
  rw[HS.out]
  go_wp2_with fail
  refine(SA.out _).mono ?_
  rintro e w' ⟨rfl,rfl⟩
  go_wp2_with fail
  refine(CR.out _).mono ?_
  rintro e w' ⟨rfl,rfl⟩
  go_wp2_with fail
  refine(drew_bel (CP.out _)).mono ?_
  rintro e w2 ⟨rfl,A2⟩
  have A7:=A2.size
  (try simp at A7)
  have Ah:=bl5 A2 (w.heap.size)
  have A8:=bl5 A2 (w.heap.size+1)
  go_wp2_with fail
  refine(SB.out _).mono ?_
  rintro e w' ⟨rfl,rfl⟩
  go_wp2_with fail
  refine(drew_bel (CQ.out _)).mono ?_
  rintro e w3 ⟨rfl,A1⟩
  have Ab:=A1.size
  (try simp at Ab)
  have Ai:=bl5 A1 (w.heap.size)
  have Ac:=bl5 A1 (w.heap.size+1)
  have Ag:=bl5 A1 (w2.heap.size)
  go_wp2_with fail
  refine calm 13 (by kernel_rfl) (by kernel_rfl) fun hG => ?_
  have A9:=hG (w.heap.size) lto
  have A3:=hG (w.heap.size+1) lto
  have Aa:=hG (w2.heap.size) lto
  clear hG
  simp only[List.take_succ_cons,List.take_zero,List.drop_succ_cons,List.drop_zero]
  repeat (go_big_quiet_step (first|(go_at_call 165;with_reducible exact calm_same CV.out)|(go_at_call 111;first|with_reducible exact calm_same CE.out|with_reducible exact calm_same CF.out)))
  refine wpQuiet_nil ?_
  intro w4 A4
  clear A9 A3 Aa
  have Ae:=A4.size
  (try simp at Ae)
  have Ak:=bl5 A4 (w.heap.size)
  have Af:=bl5 A4 (w.heap.size+1)
  have Aj:=bl5 A4 (w2.heap.size)
  go_wp2
  refine bodyPost_ret (by simp[results,Tryz.results162,go_sem, *];first|done|rfl) rfl ?_
  exact⟨rfl,blw⟩
 ·
  go_enter Tryz.func162,Tryz.ntmps162
  go_wp2_with fail
  refine(CD.out _).mono ?_
  rintro e w1 ⟨rfl,A0⟩
  have A5:=A0.size
  (try simp at A5)
  have Ad:=bl5 A0 (w.heap.size)
  have A6:=bl5 A0 (w.heap.size+1)
  go_wp2_with fail
  refine(small_any _ _ _ (by omega) (by omega)).mono ?_
  rintro e w' ⟨rfl,rfl⟩
  rw[HS.out]
  go_wp2_with fail
  refine(SA.out _).mono ?_
  rintro e w' ⟨rfl,rfl⟩
  go_wp2_with fail
  refine(CR.out _).mono ?_
  rintro e w' ⟨rfl,rfl⟩
  go_wp2_with fail
  refine(drew_bel (CP.out _)).mono ?_
  rintro e w2 ⟨rfl,A2⟩
  have A7:=A2.size
  (try simp at A7)
  have Ah:=bl5 A2 (w.heap.size)
  have A8:=bl5 A2 (w.heap.size+1)
  go_wp2_with fail
  refine(SB.out _).mono ?_
  rintro e w' ⟨rfl,rfl⟩
  go_wp2_with fail
  refine(drew_bel (CQ.out _)).mono ?_
  rintro e w3 ⟨rfl,A1⟩
  have Ab:=A1.size
  (try simp at Ab)
  have Ai:=bl5 A1 (w.heap.size)
  have Ac:=bl5 A1 (w.heap.size+1)
  have Ag:=bl5 A1 (w2.heap.size)
  go_wp2_with fail
  have hss:=fun(W:World) (v v':Value)=>setCell_twice W w2.heap.size 1 v v'
  rw[hss]
  go_wp2_with fail
  refine calm 13 (by kernel_rfl) (by kernel_rfl) fun hG => ?_
  have A9:=hG (w.heap.size) lto
  have A3:=hG (w.heap.size+1) lto
  have Aa:=hG (w2.heap.size) lto
  clear hG
  simp only[List.take_succ_cons,List.take_zero,List.drop_succ_cons,List.drop_zero]
  repeat (go_big_quiet_step (first|(go_at_call 165;with_reducible exact calm_same CV.out)|(go_at_call 111;first|with_reducible exact calm_same CE.out|with_reducible exact calm_same CF.out)))
  refine wpQuiet_nil ?_
  intro w4 A4
  clear A9 A3 Aa
  have Ae:=A4.size
  (try simp at Ae)
  have Ak:=bl5 A4 (w.heap.size)
  have Af:=bl5 A4 (w.heap.size+1)
  have Aj:=bl5 A4 (w2.heap.size)
  go_wp2
  refine bodyPost_ret (by simp[results,Tryz.results162,go_sem, *];first|done|rfl) rfl ?_
  exact⟨rfl,blw⟩
 ·
  go_enter Tryz.func162,Tryz.ntmps162
  go_wp2_with fail
  refine(CD.out _).mono ?_
  rintro e w1 ⟨rfl,A0⟩
  have A5:=A0.size
  (try simp at A5)
  have Ad:=bl5 A0 (w.heap.size)
  have A6:=bl5 A0 (w.heap.size+1)
  go_wp2_with fail
  refine(small_any _ _ _ (by omega) (by omega)).mono ?_
  rintro e w' ⟨rfl,rfl⟩
  rw[HS.out]
  go_wp2_with fail
  refine(SA.out _).mono ?_
  rintro e w' ⟨rfl,rfl⟩
  go_wp2_with fail
  refine(CR.out _).mono ?_
  rintro e w' ⟨rfl,rfl⟩
  go_wp2_with fail
  refine(drew_bel (CP.out _)).mono ?_
  rintro e w2 ⟨rfl,A2⟩
  have A7:=A2.size
  (try simp at A7)
  have Ah:=bl5 A2 (w.heap.size)
  have A8:=bl5 A2 (w.heap.size+1)
  go_wp2_with fail
  refine(SB.out _).mono ?_
  rintro e w' ⟨rfl,rfl⟩
  go_wp2_with fail
  refine(drew_bel (CQ.out _)).mono ?_
  rintro e w3 ⟨rfl,A1⟩
  have Ab:=A1.size
  (try simp at Ab)
  have Ai:=bl5 A1 (w.heap.size)
  have Ac:=bl5 A1 (w.heap.size+1)
  have Ag:=bl5 A1 (w2.heap.size)
  go_wp2_with fail
  have hss:=fun(W:World) (v v':Value)=>setCell_twice W w2.heap.size 1 v v'
  rw[hss]
  go_wp2_with fail
  refine calm 13 (by kernel_rfl) (by kernel_rfl) fun hG => ?_
  have A9:=hG (w.heap.size) lto
  have A3:=hG (w.heap.size+1) lto
  have Aa:=hG (w2.heap.size) lto
  clear hG
  simp only[List.take_succ_cons,List.take_zero,List.drop_succ_cons,List.drop_zero]
  repeat (go_big_quiet_step (first|(go_at_call 165;with_reducible exact calm_same CV.out)|(go_at_call 111;first|with_reducible exact calm_same CE.out|with_reducible exact calm_same CF.out)))
  refine wpQuiet_nil ?_
  intro w4 A4
  clear A9 A3 Aa
  have Ae:=A4.size
  (try simp at Ae)
  have Ak:=bl5 A4 (w.heap.size)
  have Af:=bl5 A4 (w.heap.size+1)
  have Aj:=bl5 A4 (w2.heap.size)
  go_wp2
  refine bodyPost_ret (by simp[results,Tryz.results162,go_sem, *];first|done|rfl) rfl ?_
  exact⟨rfl,blw⟩
end Go.Proofs.YticobgianbecpaaGreatDoor
namespace Go.Proofs.YticobgianbecpaaGreatDoor
open Go.RowKit
set_option maxHeartbeats 1000000 in
theorem bSize_any (n:Int) (w:World) (h1 : -9223372036854775807≤n) (h2:n≤9223372036854775807) :
  Calls Tryz.prog 175 #[.int .i64 n] w fun e w'=>e = .returned (.int .i64 (n.natAbs:Nat))∧w'=w:=by
 by_cases h:0≤n
 all_goals
  go_enter Tryz.func175,Tryz.ntmps175
  go_wp2
  go_ret
  exact⟨ret_int (by omega),rfl⟩
set_option maxHeartbeats 2000000 in
theorem rRoot_zero (a b r m:Int) (w:World) (h:m≤r)
  (cd:∀w,Calls Tryz.prog 138 #[.agg #[.int .i64 a,.int .i64 b,.int .i64 r]] w fun e w'=>e = .returned (.int .i64 m)∧Below w.heap.size w w') :
  Calls Tryz.prog 120 #[.agg #[.int .i64 a,.int .i64 b,.int .i64 r]] w fun e w'=>e = .returned (.tuple #[.agg #[.int .i64 0,.int .i64 0,.int .i64 0],.int .i64 9])∧Below w.heap.size w w':=by
 have CD:=Lib.hid cd
 clear cd
 go_enter Tryz.func120,Tryz.ntmps120
 go_wp2_with fail
 refine(CD.out _).mono ?_
 rintro e w1 ⟨rfl,A0⟩
 have A5:=A0.size
 (try simp at A5)
 have Ad:=bl5 A0 (w.heap.size)
 have A6:=bl5 A0 (w.heap.size+1)
 go_wp2
 refine bodyPost_ret (by simp[results,Tryz.results120,go_sem, *];first|done|rfl) rfl ?_
 exact⟨rfl,blw⟩
set_option maxHeartbeats 2000000 in
theorem rRoot_clash (a b r m:Int) (w:World) (h:r<m) (ha:a<0) (hb : -r≤b∧b≤r) (r1:r≤67108864) (hr:r≠0)
  (cd:∀w,Calls Tryz.prog 138 #[.agg #[.int .i64 a,.int .i64 b,.int .i64 r]] w fun e w'=>e = .returned (.int .i64 m)∧Below w.heap.size w w') :
  Calls Tryz.prog 120 #[.agg #[.int .i64 a,.int .i64 b,.int .i64 r]] w fun e w'=>e = .returned (.tuple #[.agg #[.int .i64 0,.int .i64 0,.int .i64 0],.int .i64 14])∧Below w.heap.size w w':=by
 have CD:=Lib.hid cd
 clear cd
 have hr':(r != 0)=true:=by simpa using hr
 obtain⟨n,hn⟩:∃n:Int,((b.natAbs:Nat):Int)=n:=⟨_,rfl⟩
 have SB:=Lib.hid (fun w=>bSize_any b w (by omega) (by omega))
 rw[hn]at SB
 have hn1:n≤r:=by omega
 clear hr hn
 go_enter Tryz.func120,Tryz.ntmps120
 go_wp2_with fail
 refine(CD.out _).mono ?_
 rintro e w1 ⟨rfl,A0⟩
 have A5:=A0.size
 (try simp at A5)
 have Ad:=bl5 A0 (w.heap.size)
 have A6:=bl5 A0 (w.heap.size+1)
 go_wp2_with fail
 refine calm_all (by kernel_rfl) (by kernel_rfl) fun hG => ?_
 have A9:=hG (w.heap.size) lto
 have A3:=hG (w.heap.size+1) lto
 clear hG
 repeat (go_big_quiet_step (first|(go_at_call 175;with_reducible exact calm_same SB.out)))
 refine wpQuiet_nil ?_
 intro w2 A2
 clear A9 A3
 have A7:=A2.size
 (try simp at A7)
 have Ah:=bl5 A2 (w.heap.size)
 have A8:=bl5 A2 (w.heap.size+1)
 go_wp2
 refine bodyPost_ret (by simp[results,Tryz.results120,go_sem, *];first|done|rfl) rfl ?_
 exact⟨rfl,blw⟩
set_option maxHeartbeats 4000000 in
theorem rRoot_pos (a b r m w0 Q V:Int) (q:Bool) (W2:Nat) (res:Res) (w:World) (N:RootNums a b r m w0 Q V W2) (h:r<m) (ha:0≤a)
  (cd:∀w,Calls Tryz.prog 138 #[.agg #[.int .i64 a,.int .i64 b,.int .i64 r]] w fun e w'=>e = .returned (.int .i64 m)∧Below w.heap.size w w')
  (cr:∀w,Calls Tryz.prog 176 #[.int .i64 ((m+a)*524288)] w fun e w'=>e = .returned (.int .i64 w0)∧w'=w)
  (cq:∀w,Calls Tryz.prog 177 #[.int .i64 b,.int .i64 (2*w0)] w fun e w'=>e = .returned (.tuple #[.int .i64 Q,.bool q])∧w'=w)
  (cv:∀w,Calls Tryz.prog 176 #[.int .i64 (m*1048576)] w fun e w'=>e = .returned (.int .i64 V)∧w'=w)
  (ck:∀w,Calls Tryz.prog 178 #[.agg #[.int .i64 w0,.int .i64 Q,.int .i64 (-(-(r*1048576)/V)+3 + -(-1048576/w0))]] w fun e w'=>e = .returned (outR res)∧Below w.heap.size w w') :
  Calls Tryz.prog 120 #[.agg #[.int .i64 a,.int .i64 b,.int .i64 r]] w fun e w'=>e = .returned (outR res)∧Below w.heap.size w w':=by
 obtain⟨m0,m1,w1,w2,eW,V1,V2,a1,b1,r0,r1⟩:=N
 rw[outR_quad]at ck ⊢
 have CE:=Lib.hid (fun w=>bCeil_any (r*1048576) V w (by omega) (by omega) (by omega) (by omega))
 have CF:=Lib.hid (fun w=>bCeil_any 1048576 w0 w (by omega) (by omega) (by omega) (by omega))
 have B1 : -70368744177664 ≤ -(-(r*1048576)/V) ∧ -(-(r*1048576)/V)≤70368744177664:=by
  have:=ediv_lo (n := -(r*1048576)) (lo := -70368744177664) V1 (by omega) (by omega)
  have:=ediv_hi (n := -(r*1048576)) (hi:=70368744177664) V1 (by omega) (by omega)
  omega
 have B2 : -1048576 ≤ -(-1048576/w0) ∧ -(-1048576/w0)≤1048576:=by
  have:=ediv_lo (n := -1048576) (lo := -1048576) w1 (by omega) (by omega)
  have:=ediv_hi (n := -1048576) (hi:=1048576) w1 (by omega) (by omega)
  omega
 generalize -(-(r*1048576)/V)=E at *
 generalize -(-1048576/w0)=F at *
 have CD:=Lib.hid cd
 have CR:=Lib.hid cr
 have CQ:=Lib.hid cq
 have CV:=Lib.hid cv
 have CK:=Lib.hid ck
 clear cd cr cq cv ck eW
 have e1:IntKind.i64.wrap (r*1048576)=r*1048576:=IntWalk.i64_in _ (by omega)
 have e2:IntKind.i64.wrap (m*1048576)=m*1048576:=IntWalk.i64_in _ (by omega)
 have d1:decide (a<0)=false:=decide_eq_false (by omega)
 go_enter Tryz.func120,Tryz.ntmps120
 go_wp2_with fail
 refine(CD.out _).mono ?_
 rintro e w1 ⟨rfl,A0⟩
 have A5:=A0.size
 (try simp at A5)
 have Ad:=bl5 A0 (w.heap.size)
 have A6:=bl5 A0 (w.heap.size+1)
 go_wp2_with fail
 refine calm_all (by kernel_rfl) (by kernel_rfl) fun hG => ?_
 have A9:=hG (w.heap.size) lto
 have A3:=hG (w.heap.size+1) lto
 clear hG
 repeat (go_big_quiet_step (first|fail))
 refine wpQuiet_nil ?_
 intro w2 A2
 clear A9 A3
 have A7:=A2.size
 (try simp at A7)
 have Ah:=bl5 A2 (w.heap.size)
 have A8:=bl5 A2 (w.heap.size+1)
 go_wp2_with fail
 refine(CR.out _).mono ?_
 rintro e w' ⟨rfl,rfl⟩
 go_wp2_with fail
 refine(CQ.out _).mono ?_
 rintro e w' ⟨rfl,rfl⟩
 go_wp2_with fail
 refine calm 12 (by kernel_rfl) (by kernel_rfl) fun hG => ?_
 have A9:=hG (w.heap.size) lto
 have A3:=hG (w.heap.size+1) lto
 have Aa:=hG (w2.heap.size) lto
 clear hG
 simp only[List.take_succ_cons,List.take_zero,List.drop_succ_cons,List.drop_zero]
 repeat (go_big_quiet_step (first|(go_at_call 176;with_reducible exact calm_same CV.out)|(go_at_call 59;first|with_reducible exact calm_same CE.out|with_reducible exact calm_same CF.out)))
 refine wpQuiet_nil ?_
 intro w3 A1
 clear A9 A3 Aa
 have Ab:=A1.size
 (try simp at Ab)
 have Ai:=bl5 A1 (w.heap.size)
 have Ac:=bl5 A1 (w.heap.size+1)
 have Ag:=bl5 A1 (w2.heap.size)
 go_wp2_with fail
 refine(CK.out _).mono ?_
 rintro e w4 ⟨rfl,A4⟩
 have Ae:=A4.size
 (try simp at Ae)
 have Af:=bl5 A4 (w.heap.size+1)
 go_wp2
 refine bodyPost_ret (by simp[results,Tryz.results120,go_sem, *];first|done|rfl) rfl ?_
 exact⟨rfl,blw⟩
set_option maxHeartbeats 4000000 in
theorem rRoot_neg (a b r m w0 Q V y0:Int) (q:Bool) (W2:Nat) (res:Res) (w:World) (N:RootNums a b r m w0 Q V W2) (h:r<m) (ha:a<0) (hb:(¬(-r≤b∧b≤r))∨r=0) (hy:(0≤b∧y0=w0)∨(b<0∧y0 = -w0))
  (cd:∀w,Calls Tryz.prog 138 #[.agg #[.int .i64 a,.int .i64 b,.int .i64 r]] w fun e w'=>e = .returned (.int .i64 m)∧Below w.heap.size w w')
  (cr:∀w,Calls Tryz.prog 176 #[.int .i64 ((m-a)*524288)] w fun e w'=>e = .returned (.int .i64 w0)∧w'=w)
  (cq:∀w,Calls Tryz.prog 177 #[.int .i64 (b.natAbs:Nat),.int .i64 (2*w0)] w fun e w'=>e = .returned (.tuple #[.int .i64 Q,.bool q])∧w'=w)
  (cv:∀w,Calls Tryz.prog 176 #[.int .i64 (m*1048576)] w fun e w'=>e = .returned (.int .i64 V)∧w'=w)
  (ck:∀w,Calls Tryz.prog 178 #[.agg #[.int .i64 Q,.int .i64 y0,.int .i64 (-(-(r*1048576)/V)+3 + -(-1048576/w0))]] w fun e w'=>e = .returned (outR res)∧Below w.heap.size w w') :
  Calls Tryz.prog 120 #[.agg #[.int .i64 a,.int .i64 b,.int .i64 r]] w fun e w'=>e = .returned (outR res)∧Below w.heap.size w w':=by
 obtain⟨m0,m1,w1,w2,eW,V1,V2,a1,b1,r0,r1⟩:=N
 rw[outR_quad]at ck ⊢
 have CE:=Lib.hid (fun w=>bCeil_any (r*1048576) V w (by omega) (by omega) (by omega) (by omega))
 have CF:=Lib.hid (fun w=>bCeil_any 1048576 w0 w (by omega) (by omega) (by omega) (by omega))
 have B1 : -70368744177664 ≤ -(-(r*1048576)/V) ∧ -(-(r*1048576)/V)≤70368744177664:=by
  have:=ediv_lo (n := -(r*1048576)) (lo := -70368744177664) V1 (by omega) (by omega)
  have:=ediv_hi (n := -(r*1048576)) (hi:=70368744177664) V1 (by omega) (by omega)
  omega
 have B2 : -1048576 ≤ -(-1048576/w0) ∧ -(-1048576/w0)≤1048576:=by
  have:=ediv_lo (n := -1048576) (lo := -1048576) w1 (by omega) (by omega)
  have:=ediv_hi (n := -1048576) (hi:=1048576) w1 (by omega) (by omega)
  omega
 generalize -(-(r*1048576)/V)=E at *
 generalize -(-1048576/w0)=F at *
 obtain⟨n,hn⟩:∃n:Int,((b.natAbs:Nat):Int)=n:=⟨_,rfl⟩
 have SB:=Lib.hid (fun w=>bSize_any b w (by omega) (by omega))
 rw[hn]at SB cq
 have nb:0≤n∧n≤67108864:=by omega
 have hsr:r<n∨(n≤r∧(r != 0)=false):=by
  by_cases c:n≤r
  ·right
   rcases hb with hb|hb
   ·omega
   ·exact⟨c,by simpa using hb⟩
  ·left;omega
 clear hn hb
 have CD:=Lib.hid cd
 have CR:=Lib.hid cr
 have CQ:=Lib.hid cq
 have CV:=Lib.hid cv
 have CK:=Lib.hid ck
 clear cd cr cq cv ck eW
 have e1:IntKind.i64.wrap (r*1048576)=r*1048576:=IntWalk.i64_in _ (by omega)
 have e2:IntKind.i64.wrap (m*1048576)=m*1048576:=IntWalk.i64_in _ (by omega)
 rcases hy with⟨hy,rfl⟩|⟨hy,rfl⟩<;>rcases hsr with hsr|⟨hsr,hr0⟩
 ·
  have d2:decide (n≤r)=false:=decide_eq_false (by omega)
  go_enter Tryz.func120,Tryz.ntmps120
  go_wp2_with fail
  refine(CD.out _).mono ?_
  rintro e w1 ⟨rfl,A0⟩
  have A5:=A0.size
  (try simp at A5)
  have Ad:=bl5 A0 (w.heap.size)
  have A6:=bl5 A0 (w.heap.size+1)
  go_wp2_with fail
  refine calm_all (by kernel_rfl) (by kernel_rfl) fun hG => ?_
  have A9:=hG (w.heap.size) lto
  have A3:=hG (w.heap.size+1) lto
  clear hG
  repeat (go_big_quiet_step (first|(go_at_call 175;with_reducible exact calm_same SB.out)))
  refine wpQuiet_nil ?_
  intro w2 A2
  clear A9 A3
  have A7:=A2.size
  (try simp at A7)
  have Ah:=bl5 A2 (w.heap.size)
  have A8:=bl5 A2 (w.heap.size+1)
  go_wp2_with fail
  refine(CR.out _).mono ?_
  rintro e w' ⟨rfl,rfl⟩
  go_wp2_with fail
  refine(SB.out _).mono ?_
  rintro e w' ⟨rfl,rfl⟩
  go_wp2_with fail
  refine(CQ.out _).mono ?_
  rintro e w' ⟨rfl,rfl⟩
  go_wp2_with fail
  refine calm 12 (by kernel_rfl) (by kernel_rfl) fun hG => ?_
  have A9:=hG (w.heap.size) lto
  have A3:=hG (w.heap.size+1) lto
  have Aa:=hG (w2.heap.size) lto
  clear hG
  simp only[List.take_succ_cons,List.take_zero,List.drop_succ_cons,List.drop_zero]
  repeat (go_big_quiet_step (first|(go_at_call 176;with_reducible exact calm_same CV.out)|(go_at_call 59;first|with_reducible exact calm_same CE.out|with_reducible exact calm_same CF.out)))
  refine wpQuiet_nil ?_
  intro w3 A1
  clear A9 A3 Aa
  have Ab:=A1.size
  (try simp at Ab)
  have Ai:=bl5 A1 (w.heap.size)
  have Ac:=bl5 A1 (w.heap.size+1)
  have Ag:=bl5 A1 (w2.heap.size)
  go_wp2_with fail
  refine(CK.out _).mono ?_
  rintro e w4 ⟨rfl,A4⟩
  have Ae:=A4.size
  (try simp at Ae)
  have Af:=bl5 A4 (w.heap.size+1)
  go_wp2
  refine bodyPost_ret (by simp[results,Tryz.results120,go_sem, *];first|done|rfl) rfl ?_
  exact⟨rfl,blw⟩
 ·
  go_enter Tryz.func120,Tryz.ntmps120
  go_wp2_with fail
  refine(CD.out _).mono ?_
  rintro e w1 ⟨rfl,A0⟩
  have A5:=A0.size
  (try simp at A5)
  have Ad:=bl5 A0 (w.heap.size)
  have A6:=bl5 A0 (w.heap.size+1)
  go_wp2_with fail
  refine calm_all (by kernel_rfl) (by kernel_rfl) fun hG => ?_
  have A9:=hG (w.heap.size) lto
  have A3:=hG (w.heap.size+1) lto
  clear hG
  repeat (go_big_quiet_step (first|(go_at_call 175;with_reducible exact calm_same SB.out)))
  refine wpQuiet_nil ?_
  intro w2 A2
  clear A9 A3
  have A7:=A2.size
  (try simp at A7)
  have Ah:=bl5 A2 (w.heap.size)
  have A8:=bl5 A2 (w.heap.size+1)
  go_wp2_with fail
  refine(CR.out _).mono ?_
  rintro e w' ⟨rfl,rfl⟩
  go_wp2_with fail
  refine(SB.out _).mono ?_
  rintro e w' ⟨rfl,rfl⟩
  go_wp2_with fail
  refine(CQ.out _).mono ?_
  rintro e w' ⟨rfl,rfl⟩
  go_wp2_with fail
  refine calm 12 (by kernel_rfl) (by kernel_rfl) fun hG => ?_
  have A9:=hG (w.heap.size) lto
  have A3:=hG (w.heap.size+1) lto
  have Aa:=hG (w2.heap.size) lto
  clear hG
  simp only[List.take_succ_cons,List.take_zero,List.drop_succ_cons,List.drop_zero]
  repeat (go_big_quiet_step (first|(go_at_call 176;with_reducible exact calm_same CV.out)|(go_at_call 59;first|with_reducible exact calm_same CE.out|with_reducible exact calm_same CF.out)))
  refine wpQuiet_nil ?_
  intro w3 A1
  clear A9 A3 Aa
  have Ab:=A1.size
  (try simp at Ab)
  have Ai:=bl5 A1 (w.heap.size)
  have Ac:=bl5 A1 (w.heap.size+1)
  have Ag:=bl5 A1 (w2.heap.size)
  go_wp2_with fail
  refine(CK.out _).mono ?_
  rintro e w4 ⟨rfl,A4⟩
  have Ae:=A4.size
  (try simp at Ae)
  have Af:=bl5 A4 (w.heap.size+1)
  go_wp2
  refine bodyPost_ret (by simp[results,Tryz.results120,go_sem, *];first|done|rfl) rfl ?_
  exact⟨rfl,blw⟩
 ·
  have d2:decide (n≤r)=false:=decide_eq_false (by omega)
  go_enter Tryz.func120,Tryz.ntmps120
  go_wp2_with fail
  refine(CD.out _).mono ?_
  rintro e w1 ⟨rfl,A0⟩
  have A5:=A0.size
  (try simp at A5)
  have Ad:=bl5 A0 (w.heap.size)
  have A6:=bl5 A0 (w.heap.size+1)
  go_wp2_with fail
  refine calm_all (by kernel_rfl) (by kernel_rfl) fun hG => ?_
  have A9:=hG (w.heap.size) lto
  have A3:=hG (w.heap.size+1) lto
  clear hG
  repeat (go_big_quiet_step (first|(go_at_call 175;with_reducible exact calm_same SB.out)))
  refine wpQuiet_nil ?_
  intro w2 A2
  clear A9 A3
  have A7:=A2.size
  (try simp at A7)
  have Ah:=bl5 A2 (w.heap.size)
  have A8:=bl5 A2 (w.heap.size+1)
  go_wp2_with fail
  refine(CR.out _).mono ?_
  rintro e w' ⟨rfl,rfl⟩
  go_wp2_with fail
  refine(SB.out _).mono ?_
  rintro e w' ⟨rfl,rfl⟩
  go_wp2_with fail
  refine(CQ.out _).mono ?_
  rintro e w' ⟨rfl,rfl⟩
  go_wp2_with fail
  refine calm 12 (by kernel_rfl) (by kernel_rfl) fun hG => ?_
  have A9:=hG (w.heap.size) lto
  have A3:=hG (w.heap.size+1) lto
  have Aa:=hG (w2.heap.size) lto
  clear hG
  simp only[List.take_succ_cons,List.take_zero,List.drop_succ_cons,List.drop_zero]
  repeat (go_big_quiet_step (first|(go_at_call 176;with_reducible exact calm_same CV.out)|(go_at_call 59;first|with_reducible exact calm_same CE.out|with_reducible exact calm_same CF.out)))
  refine wpQuiet_nil ?_
  intro w3 A1
  clear A9 A3 Aa
  have Ab:=A1.size
  (try simp at Ab)
  have Ai:=bl5 A1 (w.heap.size)
  have Ac:=bl5 A1 (w.heap.size+1)
  have Ag:=bl5 A1 (w2.heap.size)
  go_wp2_with fail
  refine(CK.out _).mono ?_
  rintro e w4 ⟨rfl,A4⟩
  have Ae:=A4.size
  (try simp at Ae)
  have Af:=bl5 A4 (w.heap.size+1)
  go_wp2
  refine bodyPost_ret (by simp[results,Tryz.results120,go_sem, *];first|done|rfl) rfl ?_
  exact⟨rfl,blw⟩
 ·
  go_enter Tryz.func120,Tryz.ntmps120
  go_wp2_with fail
  refine(CD.out _).mono ?_
  rintro e w1 ⟨rfl,A0⟩
  have A5:=A0.size
  (try simp at A5)
  have Ad:=bl5 A0 (w.heap.size)
  have A6:=bl5 A0 (w.heap.size+1)
  go_wp2_with fail
  refine calm_all (by kernel_rfl) (by kernel_rfl) fun hG => ?_
  have A9:=hG (w.heap.size) lto
  have A3:=hG (w.heap.size+1) lto
  clear hG
  repeat (go_big_quiet_step (first|(go_at_call 175;with_reducible exact calm_same SB.out)))
  refine wpQuiet_nil ?_
  intro w2 A2
  clear A9 A3
  have A7:=A2.size
  (try simp at A7)
  have Ah:=bl5 A2 (w.heap.size)
  have A8:=bl5 A2 (w.heap.size+1)
  go_wp2_with fail
  refine(CR.out _).mono ?_
  rintro e w' ⟨rfl,rfl⟩
  go_wp2_with fail
  refine(SB.out _).mono ?_
  rintro e w' ⟨rfl,rfl⟩
  go_wp2_with fail
  refine(CQ.out _).mono ?_
  rintro e w' ⟨rfl,rfl⟩
  go_wp2_with fail
  refine calm 12 (by kernel_rfl) (by kernel_rfl) fun hG => ?_
  have A9:=hG (w.heap.size) lto
  have A3:=hG (w.heap.size+1) lto
  have Aa:=hG (w2.heap.size) lto
  clear hG
  simp only[List.take_succ_cons,List.take_zero,List.drop_succ_cons,List.drop_zero]
  repeat (go_big_quiet_step (first|(go_at_call 176;with_reducible exact calm_same CV.out)|(go_at_call 59;first|with_reducible exact calm_same CE.out|with_reducible exact calm_same CF.out)))
  refine wpQuiet_nil ?_
  intro w3 A1
  clear A9 A3 Aa
  have Ab:=A1.size
  (try simp at Ab)
  have Ai:=bl5 A1 (w.heap.size)
  have Ac:=bl5 A1 (w.heap.size+1)
  have Ag:=bl5 A1 (w2.heap.size)
  go_wp2_with fail
  refine(CK.out _).mono ?_
  rintro e w4 ⟨rfl,A4⟩
  have Ae:=A4.size
  (try simp at Ae)
  have Af:=bl5 A4 (w.heap.size+1)
  go_wp2
  refine bodyPost_ret (by simp[results,Tryz.results120,go_sem, *];first|done|rfl) rfl ?_
  exact⟨rfl,blw⟩
end Go.Proofs.YticobgianbecpaaGreatDoor
namespace Go.Proofs.YticobgianbecpaaGreatDoor
open Go.RowKit
theorem rt_ge {n k:Int} (h0:0≤n) (h1:n<4611686018427387904) (_hk:0≤k) (h:k*k≤n):k≤rt n:=by
 have:=rt_spec h0 h1
 have n0:=rt_nonneg n
 have:k<rt n+1:=lt_of_sq (by omega) (by omega)
 omega
@[irreducible] def roW (a b:Int):Int:=rt ((rt (a*a+b*b)+(a.natAbs:Int))*524288)
@[irreducible] def roX (a b:Int):Int:=if 0≤a then roW a b else qv (b.natAbs:Int) (2*roW a b).toNat
@[irreducible] def roY (a b:Int):Int:=if 0≤a then qv b (2*roW a b).toNat else if 0≤b then roW a b else -roW a b
@[irreducible] def roR (a b r:Int):Int := -(-(r*1048576)/rt (rt (a*a+b*b)*1048576))+3 + -(-1048576/roW a b)
def rootR (a b r:Int):Res :=
 if rt (a*a+b*b)≤r then .bad 9
 else if a<0∧(-r≤b∧b≤r)∧r≠0 then .bad 14
 else fin (roX a b) (roY a b) (roR a b r) 0
def rootM (a b r:Int):Res:=onOne a b r (rootR a b r)
theorem root_nums {a b r:Int} (h:Right a b r) (hm:r<rt (a*a+b*b)) (Q:Int) :
  RootNums a b r (rt (a*a+b*b)) (roW a b) Q (rt (rt (a*a+b*b)*1048576)) (2*roW a b).toNat∧724≤roW a b:=by
 have q1:=h.sh.1.sq h.sh.2
 obtain⟨⟨h1,h2,h3,h4⟩,r0,r1⟩:=h
 have t1:=rt_le (b:=1073741824) q1.1 (by omega) (by omega) (by omega)
 have m1:1≤rt (a*a+b*b):=by omega
 unfold roW
 generalize rt (a*a+b*b)=m at *
 have w1:724≤rt ((m+(a.natAbs:Int))*524288):=rt_ge (by omega) (by omega) (by omega) (by omega)
 have w2:rt ((m+(a.natAbs:Int))*524288)≤1073741824:=rt_le (by omega) (by omega) (by omega) (by omega)
 have V1:1≤rt (m*1048576):=rt_ge (by omega) (by omega) (by omega) (by omega)
 have V2:rt (m*1048576)≤1073741824:=rt_le (by omega) (by omega) (by omega) (by omega)
 exact⟨⟨by omega,t1,by omega,w2,by omega,V1,V2,⟨h1,h2⟩,⟨h3,h4⟩,r0,r1⟩,w1⟩
set_option maxHeartbeats 1000000 in
theorem Root_frame (x y r a b c q:Int) (w:World) (f1:Flo x) (f2:Flo y)
  (hd:∀w,Right x y r→Does 162 #[] x y r w (.tuple #[.agg #[.int .i64 a,.int .i64 b,.int .i64 c],.int .i64 q])) :
  Calls Tryz.prog 106 #[.agg #[.complex .f64 (fl x) (fl y),.int .i64 r]] w fun e w'=>e = .returned (out (onOne x y r (fin a b c q)))∧Below w.heap.size w w':=by
 rw[out_quad]
 go_enter Tryz.func106,Tryz.ntmps106
 go_wp2_with fail
 refine(unary_any _ #[] x y r _ _ _ _ _ f1 f2 (enters_of Tryz.func162 (by kernel_rfl) rfl) (hd _)).mono ?_
 rintro e w1 ⟨rfl,A0⟩
 have A5:=A0.size
 (try simp at A5)
 have A6:=bl5 A0 (w.heap.size+1)
 rw[out_quad]
 go_wp2
 refine bodyPost_ret (by simp[results,Tryz.results106,go_sem, *];first|done|rfl) rfl ?_
 exact⟨rfl,blw⟩
theorem Root_val (a b r:Int) (h:Right a b r):∃x y z q,rootR a b r=fin x y z q∧∀w,Calls Tryz.prog 162 #[.agg #[.int .i64 a,.int .i64 b,.int .i64 r]] w fun e w'=>e = .returned (.tuple #[.agg #[.int .i64 x,.int .i64 y,.int .i64 z],.int .i64 q])∧Below w.heap.size w w':=by
 unfold rootR
 have cd:=fun w=>down_any a b w h.sh.1 h.sh.2
 by_cases c1:rt (a*a+b*b)≤r
 ·exact⟨a,b,r,9,by rw[if_pos c1,fin_bad _ _ _ 9 (by omega)],fun w=>root1_zero a b r _ w c1 cd⟩
 ·by_cases c2:a<0∧(-r≤b∧b≤r)∧r≠0
  ·exact⟨a,b,r,14,by rw[if_neg c1,if_pos c2,fin_bad _ _ _ 14 (by omega)],fun w=>root1_clash a b r _ w (by omega) c2.1 c2.2.1 h.2.1 h.2.2 c2.2.2 cd⟩
  ·refine⟨roX a b,roY a b,roR a b r,0,by rw[if_neg c1,if_neg c2],fun w => ?_⟩
   have N:=fun Q=>root_nums h (by omega) Q
   obtain⟨N0,N1⟩:=N 0
   have eW:=N0.eW
   have w2:=N0.w2
   have m0:=N0.m0
   have m1:=N0.m1
   have a1:=N0.a1
   have b1:=N0.b1
   have cv:=fun w=>root_any (rt (a*a+b*b)*1048576) w (by omega) (by omega)
   have q1:=fun w=>quotient_any b (2*roW a b).toNat w (by omega) (by omega) (by omega) (by omega)
   have q2:=fun w=>quotient_any (b.natAbs:Int) (2*roW a b).toNat w (by omega) (by omega) (by omega) (by omega)
   rw[eW]at q1 q2
   have eR:roR a b r = -(-(r*1048576)/rt (rt (a*a+b*b)*1048576))+3 + -(-1048576/roW a b):=by unfold roR;rfl
   rw[eR]
   by_cases ha:0≤a
   ·rw[show roX a b=roW a b from by unfold roX;rw[if_pos ha],show roY a b=qv b (2*roW a b).toNat from by unfold roY;rw[if_pos ha]]
    have cr:=fun w=>root_any ((rt (a*a+b*b)+a)*524288) w (by omega) (by omega)
    rw[show rt ((rt (a*a+b*b)+a)*524288)=roW a b from by unfold roW;rw[show(a.natAbs:Int)=a by omega]]at cr
    exact root1_pos a b r _ _ _ _ _ _ w (N _).1 (by omega) ha cd cr q1 cv
   ·rw[show roX a b=qv (b.natAbs:Int) (2*roW a b).toNat from by unfold roX;rw[if_neg ha],show roY a b=if 0≤b then roW a b else -roW a b from by unfold roY;rw[if_neg ha]]
    have cr:=fun w=>root_any ((rt (a*a+b*b) + -a)*524288) w (by omega) (by omega)
    rw[show rt ((rt (a*a+b*b) + -a)*524288)=roW a b from by unfold roW;rw[show(a.natAbs:Int) = -a by omega]]at cr
    refine root1_neg a b r _ _ _ _ _ _ _ _ _ w (N _).1 (by omega) (by omega) ?_ ?_ cd cr q1 q2 cv
    ·by_cases k:r=0
     ·exact .inr k
     ·exact .inl (fun hb=>c2 ⟨by omega,hb,k⟩)
    ·by_cases k:0≤b
     ·exact .inl ⟨k,by rw[if_pos k]⟩
     ·exact .inr ⟨by omega,by rw[if_neg k]⟩
theorem Root_any (x y r:Int) (w:World) (f1:Flo x) (f2:Flo y) :
  Calls Tryz.prog 106 #[.agg #[.complex .f64 (fl x) (fl y),.int .i64 r]] w fun e w'=>e = .returned (out (rootM x y r))∧Below w.heap.size w w':=by
 unfold rootM
 by_cases h:Right x y r
 ·obtain⟨a,b,c,q,e,hc⟩:=Root_val x y r h
  rw[e]
  exact Root_frame x y r a b c q w f1 f2 fun w _ w1 _=>by rw[Array.append_empty];exact hc w1
 ·rw[show onOne x y r (rootR x y r)=onOne x y r (fin 0 0 0 0)from by unfold onOne;rw[if_neg h,if_neg h]]
  exact Root_frame x y r 0 0 0 0 w f1 f2 fun w h'=>absurd h' h
theorem root_same {a b r:Int} (h:Right a b r) (hm:r<rt (a*a+b*b)) :
  (0≤a→fin (roW a b) (rv b (2*roW a b).toNat) (roR a b r) 0=fin (roX a b) (roY a b) (roR a b r) 0) ∧
  (a<0→fin (rv (b.natAbs:Int) (2*roW a b).toNat) (if 0≤b then roW a b else -roW a b) (roR a b r) 0=fin (roX a b) (roY a b) (roR a b r) 0):=by
 obtain⟨N0,N1⟩:=root_nums h hm 0
 constructor
 ·intro ha
  rw[show roX a b=roW a b from by unfold roX;rw[if_pos ha],show roY a b=qv b (2*roW a b).toNat from by unfold roY;rw[if_pos ha]]
  rcases qv_rv b (2*roW a b).toNat (by omega)with⟨e,_⟩|⟨g1,g2⟩
  ·rw[e]
  ·rw[fin_no (by unfold Right Fits;omega),fin_no (by unfold Right Fits;omega)]
 ·intro ha
  rw[show roX a b=qv (b.natAbs:Int) (2*roW a b).toNat from by unfold roX;rw[if_neg (by omega)],show roY a b=if 0≤b then roW a b else -roW a b from by unfold roY;rw[if_neg (by omega)]]
  rcases qv_rv (b.natAbs:Int) (2*roW a b).toNat (by omega)with⟨e,_⟩|⟨g1,g2⟩
  ·rw[e]
  ·rw[fin_no (by unfold Right Fits;omega),fin_no (by unfold Right Fits;omega)]
theorem rRoot_any (a b r:Int) (w:World) (h:Right a b r) :
  Calls Tryz.prog 120 #[.agg #[.int .i64 a,.int .i64 b,.int .i64 r]] w fun e w'=>e = .returned (outR (rootR a b r))∧Below w.heap.size w w':=by
 have cd:=fun w=>Down_any a b r w h.sh.1 h.sh.2
 unfold rootR
 by_cases c1:rt (a*a+b*b)≤r
 ·rw[if_pos c1];exact rRoot_zero a b r _ w c1 cd
 ·rw[if_neg c1]
  by_cases c2:a<0∧(-r≤b∧b≤r)∧r≠0
  ·rw[if_pos c2];exact rRoot_clash a b r _ w (by omega) c2.1 c2.2.1 h.2.2 c2.2.2 cd
  ·rw[if_neg c2]
   have N:=fun Q=>root_nums h (by omega) Q
   obtain⟨N0,N1⟩:=N 0
   have eW:=N0.eW
   have w2:=N0.w2
   have m0:=N0.m0
   have m1:=N0.m1
   have a1:=N0.a1
   have b1:=N0.b1
   have cv:=fun w=>bRoot_any (rt (a*a+b*b)*1048576) w (by omega) (by omega)
   have q1:=fun w=>bSR_any b (2*roW a b).toNat w (by omega) (by omega) (by omega) (by omega)
   have q2:=fun w=>bSR_any (b.natAbs:Int) (2*roW a b).toNat w (by omega) (by omega) (by omega) (by omega)
   rw[eW]at q1 q2
   have eR:roR a b r = -(-(r*1048576)/rt (rt (a*a+b*b)*1048576))+3 + -(-1048576/roW a b):=by unfold roR;rfl
   have RS:=root_same h (show r<rt (a*a+b*b)by omega)
   by_cases ha:0≤a
   ·rw[← RS.1 ha]
    have cr:=fun w=>bRoot_any ((rt (a*a+b*b)+a)*524288) w (by omega) (by omega)
    rw[show rt ((rt (a*a+b*b)+a)*524288)=roW a b from by unfold roW;rw[show(a.natAbs:Int)=a by omega]]at cr
    exact rRoot_pos a b r _ _ _ _ _ _ _ w (N _).1 (by omega) ha cd cr q1 cv (fun w=>by rw[← eR];exact Checked_any _ _ _ w)
   ·rw[← RS.2 (by omega)]
    have cr:=fun w=>bRoot_any ((rt (a*a+b*b)-a)*524288) w (by omega) (by omega)
    rw[show rt ((rt (a*a+b*b)-a)*524288)=roW a b from by unfold roW;rw[show(a.natAbs:Int) = -a by omega,← Int.sub_eq_add_neg]]at cr
    refine rRoot_neg a b r _ _ _ _ _ _ _ _ w (N _).1 (by omega) (by omega) ?_ ?_ cd cr q2 cv (fun w=>by rw[← eR];exact Checked_any _ _ _ w)
    ·by_cases k:r=0
     ·exact .inr k
     ·exact .inl (fun hb=>c2 ⟨by omega,hb,k⟩)
    ·by_cases k:0≤b
     ·exact .inl ⟨k,by rw[if_pos k]⟩
     ·exact .inr ⟨by omega,by rw[if_neg k]⟩
end Go.Proofs.YticobgianbecpaaGreatDoor
