/- Joined: Quo1 Quo2 Quo3. -/
import Derived.Test.YticobgianbecpaaGreatDoorKDiv
import Derived.Test.YticobgianbecpaaGreatDoorKFrac
import Derived.Test.YticobgianbecpaaGreatDoorKAdds
import Derived.Test.YticobgianbecpaaGreatDoorKCalm
namespace Go.Proofs.YticobgianbecpaaGreatDoor
open Go.RowKit
def qGreat (n:Int) (N:Nat):Prop:=2147483647<n.natAbs*1048576/N
instance (n:Int) (N:Nat):Decidable (qGreat n N):=by unfold qGreat;infer_instance
@[irreducible] def qv (n:Int) (N:Nat):Int:=if qGreat n N then 2147483647 else srq n N
@[irreducible] def qi (n:Int) (N:Nat):Bool:=if qGreat n N then false else n*1048576%(N:Int) != 0
@[irreducible] def qu2 (a N:Nat):Int:=if 2147483647≤a*1048576/N then 2147483647 else -(-((a:Int)*1048576)/(N:Int))
def rBig (n:Int) (N:Nat):Prop:=n/(N:Int) < -268435456∨268435456<n/(N:Int)
instance (n:Int) (N:Nat):Decidable (rBig n N):=by unfold rBig;infer_instance
@[irreducible] def rv (n:Int) (N:Nat):Int:=if rBig n N then(2*n+N)/(2*N)else srq n N
@[irreducible] def ri (n:Int) (N:Nat):Bool:=if rBig n N then n%(N:Int) != 0 else n*1048576%(N:Int) != 0
@[irreducible] def ru (a N:Nat):Int:=if rBig a N then -(-(a:Int)/(N:Int))else -(-((a:Int)*1048576)/(N:Int))
theorem quotient_any (n:Int) (N:Nat) (w:World) (n1 : -4611686018427387904≤n) (n2:n≤4611686018427387904) (b1:1≤N) (b2:N≤1152921504606846976) :
  Calls Tryz.prog 167 #[.int .i64 n,.int .i64 1048576,.int .i64 N] w fun e w'=>e = .returned (.tuple #[.int .i64 (qv n N),.bool (qi n N)])∧∃k,w'=w.drewN k:=by
 unfold qv qi
 by_cases h:qGreat n N
 ·rw[if_pos h,if_pos h];exact quotient_great n N w n1 n2 b1 b2 h
 ·rw[if_neg h,if_neg h];exact quotient_small n N w n1 n2 b1 b2 (by unfold qGreat at h;omega)
theorem bSR_any (n:Int) (N:Nat) (w:World) (n1 : -4611686018427387904≤n) (n2:n≤4611686018427387904) (b1:1≤N) (b2:N≤1152921504606846976) :
  Calls Tryz.prog 177 #[.int .i64 n,.int .i64 N] w fun e w'=>e = .returned (.tuple #[.int .i64 (rv n N),.bool (ri n N)])∧w'=w:=by
 unfold rv ri
 by_cases h:rBig n N
 ·rw[if_pos h,if_pos h];exact bScaledRounded_big n N w n1 n2 (by omega) (by omega) h
 ·rw[if_neg h,if_neg h]
  unfold rBig at h
  exact bScaledRounded_any n N w n1 n2 (by omega) (by omega) (by omega) (by omega)
set_option maxHeartbeats 1000000 in
theorem bScaledUp_any (a N:Nat) (w:World) (a1:a≤4611686018427387904) (b1:1≤N) (b2:N≤1152921504606846976) :
  Calls Tryz.prog 203 #[.int .i64 a,.int .i64 N] w fun e w'=>e = .returned (.int .i64 (ru a N))∧w'=w:=by
 unfold ru
 have hs:∃q r:Int,(∀w,Calls Tryz.prog 227 #[.int .i64 a,.int .i64 N] w fun e w'=>e = .returned (.tuple #[.int .i64 q,.int .i64 r])∧w'=w)∧0≤q∧q≤4611686018427387904 ∧
   (if rBig a N then -(-(a:Int)/(N:Int))else -(-((a:Int)*1048576)/(N:Int)))=if r=0 then q else q+1:=by
  by_cases h:rBig a N
  ·rw[if_pos h]
   exact⟨_,_,fun w=>bScaled_big a N w (by omega) (by omega) (by omega) (by omega) h,Int.ediv_nonneg (by omega) (by omega),ediv_hi (by omega) (by omega) (by omega),up_size (by omega)⟩
  ·rw[if_neg h]
   unfold rBig at h
   have hb:=scaled_bound (n:=(a:Int)) (b:=(N:Int)) (by omega) (by omega) (by omega) 1048576 (by omega) (by omega)
   exact⟨_,_,fun w=>bScaled_any a N w (by omega) (by omega) (by omega) (by omega) (by omega) (by omega),Int.ediv_nonneg (by omega) (by omega),by omega,up_size (by omega)⟩
 obtain⟨q,r,hc,q0,q1,e⟩:=hs
 rw[e]
 have C:=Lib.hid hc
 clear hc e
 by_cases hr:r=0
 ·rw[if_pos hr]
  have c3:(r != 0)=false:=by simpa using hr
  clear hr
  go_enter Tryz.func203,Tryz.ntmps203
  go_wp2_with fail
  refine(C.out _).mono ?_
  rintro e w' ⟨rfl,rfl⟩
  go_wp2
  go_ret
  exact⟨rfl,rfl⟩
 ·rw[if_neg hr]
  have c3:(r != 0)=true:=by simpa using hr
  clear hr
  go_enter Tryz.func203,Tryz.ntmps203
  go_wp2_with fail
  refine(C.out _).mono ?_
  rintro e w' ⟨rfl,rfl⟩
  go_wp2
  go_ret
  exact⟨rfl,rfl⟩
theorem big_great {n:Int}{N:Nat} (hN:1≤N) (h:rBig n N):qGreat n N:=by
 unfold rBig at h
 unfold qGreat
 have:2147483648≤n.natAbs*1048576/N:=by
  rw[Nat.le_div_iff_mul_le (by omega)]
  rcases h with h|h
  ·have:=(Int.ediv_lt_iff_lt_mul (a:=n) (b := -268435456) (show 0<(N:Int)by omega)).1 h
   omega
  ·have:=(Int.le_ediv_iff_mul_le (a:=268435457) (b:=n) (show 0<(N:Int)by omega)).1 (by omega)
   omega
 omega
theorem great_out {n:Int}{N:Nat} (hN:1≤N) (h:qGreat n N):srq n N < -67108864∨67108864<srq n N:=by
 have hr:=round_near (n:=n*1048576) (b:=(N:Int)) (by omega)
 unfold srq
 unfold qGreat at h
 have h2:2147483648*N≤n.natAbs*1048576:=(Nat.le_div_iff_mul_le (by omega)).1 h
 rcases Int.lt_or_le n 0 with k|k
 ·left
  have:n*1048576/(N:Int) ≤ -2147483648:=by
   have:n*1048576/(N:Int) < -2147483647:=by rw[Int.ediv_lt_iff_lt_mul (by omega)];omega
   omega
  omega
 ·right
  have:2147483648≤n*1048576/(N:Int):=by rw[Int.le_ediv_iff_mul_le (by omega)];omega
  omega
theorem qv_rv (n:Int) (N:Nat) (hN:1≤N):(qv n N=rv n N∧qi n N=ri n N)∨((qv n N < -67108864∨67108864<qv n N)∧(rv n N < -67108864∨67108864<rv n N)):=by
 unfold qv rv qi ri
 by_cases h:qGreat n N
 ·right
  rw[if_pos h]
  refine⟨by omega,?_⟩
  by_cases h2:rBig n N
  ·rw[if_pos h2]
   have:=round_near (n:=n) (b:=(N:Int)) (by omega)
   unfold rBig at h2
   omega
  ·rw[if_neg h2];exact great_out hN h
 ·left
  have h2:¬rBig n N:=fun k=>h (big_great hN k)
  rw[if_neg h,if_neg h2,if_neg h,if_neg h2]
  exact⟨rfl,rfl⟩
theorem qu_ru (a N:Nat) (hN:1≤N):qu2 a N=ru a N∨(67108864<qu2 a N∧67108864<ru a N):=by
 unfold qu2 ru
 by_cases h:2147483647≤a*1048576/N
 ·right
  rw[if_pos h]
  refine⟨by omega,?_⟩
  by_cases h2:rBig a N
  ·rw[if_pos h2,up_size (by omega)]
   unfold rBig at h2
   have:0≤(a:Int)/(N:Int):=Int.ediv_nonneg (by omega) (by omega)
   split<;>omega
  ·rw[if_neg h2,up_nat (by omega)]
   split<;>omega
 ·left
  have h2:¬rBig a N:=fun k=>by
   have:=big_great hN k
   unfold qGreat at this
   simp at this
   omega
  rw[if_neg h,if_neg h2]
theorem fin_no {x y r:Int} (h:¬Right x y r):fin x y r 0 = .bad 8:=by rw[fin_zero,if_neg h]
theorem quot_same (p q:Int) (N t E:Nat) (hN:1≤N) (hE:1≤E) :
  fin (rv p N) (rv q N) (ru t E+b1 (ri p N||ri q N)) 0=fin (qv p N) (qv q N) (qu2 t E+b1 (qi p N||qi q N)) 0:=by
 have o1:=b1_bd (ri p N||ri q N)
 have o2:=b1_bd (qi p N||qi q N)
 rcases qv_rv p N hN with⟨e1,e2⟩|⟨g1,g2⟩
 ·rcases qv_rv q N hN with⟨f1,f2⟩|⟨g1,g2⟩
  ·rw[e1,e2,f1,f2]
   rcases qu_ru t E hE with e|⟨k1,k2⟩
   ·rw[e]
   ·rw[e2,f2]at o2
    rw[fin_no (by unfold Right Fits;omega),fin_no (by unfold Right Fits;omega)]
  ·rw[fin_no (by unfold Right Fits;omega),fin_no (by unfold Right Fits;omega)]
 ·rw[fin_no (by unfold Right Fits;omega),fin_no (by unfold Right Fits;omega)]
end Go.Proofs.YticobgianbecpaaGreatDoor
namespace Go.Proofs.YticobgianbecpaaGreatDoor
open Go.RowKit
set_option maxHeartbeats 2000000 in
theorem quotient1_no (a b r c d s D:Int) (w:World) (h:D≤s)
  (cd:∀w,Calls Tryz.prog 163 #[.agg #[.int .i64 c,.int .i64 d]] w fun e w'=>e = .returned (.int .i64 D)∧Below w.heap.size w w') :
  Calls Tryz.prog 193 #[.agg #[.int .i64 a,.int .i64 b,.int .i64 r],.agg #[.int .i64 c,.int .i64 d,.int .i64 s]] w fun e w' =>
   e = .returned (.tuple #[.agg #[.int .i64 a,.int .i64 b,.int .i64 r],.int .i64 9])∧Below w.heap.size w w':=by
 have CD:=Lib.hid cd
 clear cd
 go_enter Tryz.func193,Tryz.ntmps193
 go_wp2_with fail
 refine(CD.out _).mono ?_
 rintro e w1 ⟨rfl,A0⟩
 have A5:=A0.size
 (try simp at A5)
 have Ae:=bl5 A0 (w.heap.size)
 have A8:=bl5 A0 (w.heap.size+1)
 have A6:=bl5 A0 (w.heap.size+1+1)
 go_wp2
 refine bodyPost_ret (by simp[results,Tryz.results193,go_sem, *];first|done|rfl) rfl ?_
 exact⟨rfl,blw⟩
set_option maxHeartbeats 4000000 in
theorem quotient1_yes (a b r c d s D Ua Ub p q X Y R:Int) (N:Nat) (x y:Bool) (w:World) (h:s<D) (s0:0≤s)
  (cd:∀w,Calls Tryz.prog 163 #[.agg #[.int .i64 c,.int .i64 d]] w fun e w'=>e = .returned (.int .i64 D)∧Below w.heap.size w w')
  (cc:∀w,Calls Tryz.prog 194 #[.agg #[.int .i64 c,.int .i64 d]] w fun e w'=>e = .returned (.agg #[.int .i64 c,.int .i64 (-d)])∧Below w.heap.size w w')
  (ct:∀w,Calls Tryz.prog 190 #[.agg #[.int .i64 a,.int .i64 b],.agg #[.int .i64 c,.int .i64 (-d)]] w fun e w'=>e = .returned (.agg #[.int .i64 p,.int .i64 q])∧Below w.heap.size w w')
  (cs:∀w,Calls Tryz.prog 195 #[.agg #[.int .i64 c,.int .i64 d]] w fun e w'=>e = .returned (.int .i64 N)∧Below w.heap.size w w')
  (q1:∀w,Calls Tryz.prog 167 #[.int .i64 p,.int .i64 1048576,.int .i64 N] w fun e w'=>e = .returned (.tuple #[.int .i64 X,.bool x])∧∃k,w'=w.drewN k)
  (q2:∀w,Calls Tryz.prog 167 #[.int .i64 q,.int .i64 1048576,.int .i64 N] w fun e w'=>e = .returned (.tuple #[.int .i64 Y,.bool y])∧∃k,w'=w.drewN k)
  (ua:∀w,Calls Tryz.prog 171 #[.agg #[.int .i64 a,.int .i64 b]] w fun e w'=>e = .returned (.int .i64 Ua)∧Below w.heap.size w w')
  (ub:∀w,Calls Tryz.prog 171 #[.agg #[.int .i64 c,.int .i64 d]] w fun e w'=>e = .returned (.int .i64 Ub)∧Below w.heap.size w w')
  (cu:∀w,Calls Tryz.prog 196 #[.int .i64 (r*Ub+Ua*s),.int .i64 1048576,.int .i64 ((D-s)*D)] w fun e w'=>e = .returned (.int .i64 R)∧∃k,w'=w.drewN k)
  (D1:D≤1073741824) (m1:0≤r*Ub∧r*Ub≤1152921504606846976) (m2:0≤Ua*s∧Ua*s≤1152921504606846976) (m3:0≤(D-s)*D∧(D-s)*D≤1152921504606846976) (R0:0≤R) (R1:R≤4611686018427387904) :
  Calls Tryz.prog 193 #[.agg #[.int .i64 a,.int .i64 b,.int .i64 r],.agg #[.int .i64 c,.int .i64 d,.int .i64 s]] w fun e w' =>
   e = .returned (.tuple #[.agg #[.int .i64 X,.int .i64 Y,.int .i64 (R+b1 (x||y))],.int .i64 0])∧Below w.heap.size w w':=by
 have CD:=Lib.hid cd
 have CC:=Lib.hid cc
 have CT:=Lib.hid ct
 have CS:=Lib.hid cs
 have Q1:=Lib.hid q1
 have Q2:=Lib.hid q2
 have UA:=Lib.hid ua
 have UB:=Lib.hid ub
 have CU:=Lib.hid cu
 clear cd cc ct cs q1 q2 ua ub cu
 have o1:=b1_bd true
 have o2:=b1_bd y
 cases x
 all_goals
  go_enter Tryz.func193,Tryz.ntmps193
  go_wp2_with fail
  refine(CD.out _).mono ?_
  rintro e w1 ⟨rfl,A0⟩
  have A5:=A0.size
  (try simp at A5)
  have Ae:=bl5 A0 (w.heap.size)
  have A8:=bl5 A0 (w.heap.size+1)
  have A6:=bl5 A0 (w.heap.size+1+1)
  go_wp2_with fail
  refine calm_new 6 #[.int .i64 0,.int .i64 0] 159 _ rfl (by kernel_rfl) (by kernel_rfl) (fun a w=>by kernel_rfl) fun hG => ?_
  have A7:=hG (w.heap.size) lto
  have A1:=hG (w.heap.size+1) lto
  have A2:=hG (w.heap.size+1+1) lto
  clear hG
  simp only[List.take_succ_cons,List.take_zero,List.drop_succ_cons,List.drop_zero]
  repeat (refine wpCalm_step (fun K hK => ?_);go_simp;first|(refine hK _ ?_;clear hK K)|(apply Exists.intro;refine⟨fun _ => ?_,hK _ ?_⟩;(first|(go_at_call 194;with_reducible exact cal_call CC.out)|(go_at_call 190;with_reducible exact cal_call CT.out));clear hK K))
  refine wpCalm_nil ?_
  intro B1 w2 hN
  obtain⟨A4,A3,Az,B9,Ba⟩:=hN
  (try simp at A3)
  clear A7 A1 A2
  have Ad:=A4.size
  (try simp at Ad)
  have Ah:=bl5 A4 (w.heap.size)
  have Af:=bl5 A4 (w.heap.size+1)
  have Ag:=bl5 A4 (w.heap.size+1+1)
  have Ay:¬B1=w.heap.size:=by first|omega|(simp at A3;omega)
  have Ax:¬w.heap.size=B1:=by first|omega|(simp at A3;omega)
  have Ak:¬B1=w.heap.size+1:=by first|omega|(simp at A3;omega)
  have Ai:¬w.heap.size+1=B1:=by first|omega|(simp at A3;omega)
  have Al:¬B1=w.heap.size+1+1:=by first|omega|(simp at A3;omega)
  have Aj:¬w.heap.size+1+1=B1:=by first|omega|(simp at A3;omega)
  go_wp2_with fail
  refine calm_all (by kernel_rfl) (by kernel_rfl) fun hG => ?_
  have A7:=hG (w.heap.size) lto
  have A1:=hG (w.heap.size+1) lto
  have A2:=hG (w.heap.size+1+1) lto
  have Ab:=hG (B1) lto
  clear hG
  repeat (go_big_quiet_step (first|(go_at_call 195;with_reducible exact calm_call CS.out)|(go_at_call 167;with_reducible exact calm_drew Q1.out)))
  refine wpQuiet_nil ?_
  intro w3 A9
  clear A7 A1 A2 Ab
  have Am:=A9.size
  (try simp at Am)
  have B0:=bl5 A9 (w.heap.size)
  have Ap:=bl5 A9 (w.heap.size+1)
  have Aq:=bl5 A9 (w.heap.size+1+1)
  have Ar:=bl5 A9 (B1)
  go_wp2_with fail
  refine calm_all (by kernel_rfl) (by kernel_rfl) fun hG => ?_
  have A7:=hG (w.heap.size) lto
  have A1:=hG (w.heap.size+1) lto
  have A2:=hG (w.heap.size+1+1) lto
  have Ab:=hG (B1) lto
  clear hG
  repeat (go_big_quiet_step (first|(go_at_call 195;with_reducible exact calm_call CS.out)|(go_at_call 167;with_reducible exact calm_drew Q2.out)))
  refine wpQuiet_nil ?_
  intro w4 Aa
  clear A7 A1 A2 Ab
  have An:=Aa.size
  (try simp at An)
  have B7:=bl5 Aa (w.heap.size)
  have As:=bl5 Aa (w.heap.size+1)
  have At:=bl5 Aa (w.heap.size+1+1)
  have Au:=bl5 Aa (B1)
  go_wp2_with fail
  refine calm_all (by kernel_rfl) (by kernel_rfl) fun hG => ?_
  have A7:=hG (w.heap.size) lto
  have A1:=hG (w.heap.size+1) lto
  have A2:=hG (w.heap.size+1+1) lto
  clear hG
  repeat (go_big_quiet_step (first|(go_at_call 171;first|with_reducible exact calm_call UB.out|with_reducible exact calm_call UA.out)|(go_at_call 196;with_reducible exact calm_drew CU.out)))
  refine wpQuiet_nil ?_
  intro w5 Ac
  clear A7 A1 A2
  have Ao:=Ac.size
  (try simp at Ao)
  have B8:=bl5 Ac (w.heap.size)
  have Av:=bl5 Ac (w.heap.size+1)
  have Aw:=bl5 Ac (w.heap.size+1+1)
  go_wp2_with fail
  refine(one_any _ _).mono ?_
  rintro e w' ⟨rfl,rfl⟩
  go_wp2
  refine bodyPost_ret (by simp[results,Tryz.results193,go_sem, *];first|done|rfl) rfl ?_
  exact⟨rfl,blw⟩
set_option maxHeartbeats 2000000 in
theorem rQuotient_no (a b r c d s D:Int) (w:World) (h:D≤s)
  (cd:∀w,Calls Tryz.prog 138 #[.agg #[.int .i64 c,.int .i64 d,.int .i64 s]] w fun e w'=>e = .returned (.int .i64 D)∧Below w.heap.size w w') :
  Calls Tryz.prog 136 #[.agg #[.int .i64 a,.int .i64 b,.int .i64 r],.agg #[.int .i64 c,.int .i64 d,.int .i64 s]] w fun e w' =>
   e = .returned (.tuple #[.agg #[.int .i64 0,.int .i64 0,.int .i64 0],.int .i64 9])∧Below w.heap.size w w':=by
 have CD:=Lib.hid cd
 clear cd
 go_enter Tryz.func136,Tryz.ntmps136
 go_wp2_with fail
 refine calm_all (by kernel_rfl) (by kernel_rfl) fun hG => ?_
 have A1:=hG (w.heap.size+1) lto
 have A2:=hG (w.heap.size+1+1) lto
 clear hG
 repeat (go_big_quiet_step (first|(go_at_call 138;with_reducible exact calm_call CD.out)))
 refine wpQuiet_nil ?_
 intro w1 A0
 clear A1 A2
 have A5:=A0.size
 (try simp at A5)
 have A8:=bl5 A0 (w.heap.size+1)
 have A6:=bl5 A0 (w.heap.size+1+1)
 go_wp2
 refine bodyPost_ret (by simp[results,Tryz.results136,go_sem, *];first|done|rfl) rfl ?_
 exact⟨rfl,blw⟩
set_option maxHeartbeats 4000000 in
theorem rQuotient_yes (a b r c d s D Ua Ub X Y R:Int) (x y:Bool) (res:Res) (w:World) (h:s<D) (s0:0≤s)
  (cd:∀w,Calls Tryz.prog 138 #[.agg #[.int .i64 c,.int .i64 d,.int .i64 s]] w fun e w'=>e = .returned (.int .i64 D)∧Below w.heap.size w w')
  (q1:∀w,Calls Tryz.prog 177 #[.int .i64 (a*c+b*d),.int .i64 (c*c+d*d)] w fun e w'=>e = .returned (.tuple #[.int .i64 X,.bool x])∧w'=w)
  (q2:∀w,Calls Tryz.prog 177 #[.int .i64 (b*c-a*d),.int .i64 (c*c+d*d)] w fun e w'=>e = .returned (.tuple #[.int .i64 Y,.bool y])∧w'=w)
  (ua:∀w,Calls Tryz.prog 139 #[.agg #[.int .i64 a,.int .i64 b,.int .i64 r]] w fun e w'=>e = .returned (.int .i64 Ua)∧Below w.heap.size w w')
  (ub:∀w,Calls Tryz.prog 139 #[.agg #[.int .i64 c,.int .i64 d,.int .i64 s]] w fun e w'=>e = .returned (.int .i64 Ub)∧Below w.heap.size w w')
  (cu:∀w,Calls Tryz.prog 203 #[.int .i64 (r*Ub+Ua*s),.int .i64 ((D-s)*D)] w fun e w'=>e = .returned (.int .i64 R)∧w'=w)
  (ck:∀w,Calls Tryz.prog 178 #[.agg #[.int .i64 X,.int .i64 Y,.int .i64 (R+b1 (x||y))]] w fun e w'=>e = .returned (outR res)∧Below w.heap.size w w')
  (h1:Sm a) (h2:Sm b) (h3:Sm c) (h4:Sm d)
  (D1:D≤1073741824) (m1:0≤r*Ub∧r*Ub≤1152921504606846976) (m2:0≤Ua*s∧Ua*s≤1152921504606846976) (m3:0≤(D-s)*D∧(D-s)*D≤1152921504606846976) (R0:0≤R) (R1:R≤4611686018427387904) :
  Calls Tryz.prog 136 #[.agg #[.int .i64 a,.int .i64 b,.int .i64 r],.agg #[.int .i64 c,.int .i64 d,.int .i64 s]] w fun e w' =>
   e = .returned (outR res)∧Below w.heap.size w w':=by
 have n1:=h1.mul h3
 have n2:=h2.mul h4
 have n3:=h2.mul h3
 have n4:=h1.mul h4
 have n5:=h3.mul h3
 have n6:=h4.mul h4
 rw[outR_quad]at ck ⊢
 have CD:=Lib.hid cd
 have Q1:=Lib.hid q1
 have Q2:=Lib.hid q2
 have UA:=Lib.hid ua
 have UB:=Lib.hid ub
 have CU:=Lib.hid cu
 clear cd q1 q2 ua ub cu
 have o1:=b1_bd true
 have o2:=b1_bd y
 cases x
 all_goals
  have CK:=Lib.hid ck
  clear ck
  try rw[Bool.false_or]at CK
  try rw[Bool.true_or]at CK
  go_enter Tryz.func136,Tryz.ntmps136
  go_wp2_with fail
  refine calm_all (by kernel_rfl) (by kernel_rfl) fun hG => ?_
  have A7:=hG (w.heap.size) lto
  have A1:=hG (w.heap.size+1) lto
  have A2:=hG (w.heap.size+1+1) lto
  clear hG
  repeat (go_big_quiet_step (first|(go_at_call 138;with_reducible exact calm_call CD.out)))
  refine wpQuiet_nil ?_
  intro w1 A0
  clear A7 A1 A2
  have A5:=A0.size
  (try simp at A5)
  have Ae:=bl5 A0 (w.heap.size)
  have A8:=bl5 A0 (w.heap.size+1)
  have A6:=bl5 A0 (w.heap.size+1+1)
  go_wp2_with fail
  refine(Q1.out _).mono ?_
  rintro e w' ⟨rfl,rfl⟩
  go_wp2_with fail
  refine(Q2.out _).mono ?_
  rintro e w' ⟨rfl,rfl⟩
  go_wp2_with fail
  refine calm 32 (by kernel_rfl) (by kernel_rfl) fun hG => ?_
  have A7:=hG (w.heap.size) lto
  have A1:=hG (w.heap.size+1) lto
  have A2:=hG (w.heap.size+1+1) lto
  clear hG
  simp only[List.take_succ_cons,List.take_zero,List.drop_succ_cons,List.drop_zero]
  repeat (go_big_quiet_step (first|(go_at_call 139;first|with_reducible exact calm_call UB.out|with_reducible exact calm_call UA.out)|(go_at_call 138;with_reducible exact calm_call CD.out)|(go_at_call 203;with_reducible exact calm_same CU.out)|(go_at_call 202;with_reducible exact calm_same (fun w=>more_any _ w))|(go_at_call 178;with_reducible exact calm_call CK.out)))
  refine wpQuiet_nil ?_
  intro w2 A4
  clear A7 A1 A2
  have Ad:=A4.size
  (try simp at Ad)
  have Ah:=bl5 A4 (w.heap.size)
  have Af:=bl5 A4 (w.heap.size+1)
  have Ag:=bl5 A4 (w.heap.size+1+1)
  go_wp2
  refine bodyPost_ret (by simp[results,Tryz.results136,go_sem, *];first|done|rfl) rfl ?_
  exact⟨rfl,blw⟩
end Go.Proofs.YticobgianbecpaaGreatDoor
namespace Go.Proofs.YticobgianbecpaaGreatDoor
open Go.RowKit
def quoR (a b r c d s:Int):Res :=
 if rt (c*c+d*d)≤s then .bad 9
 else fin (qv (a*c+b*d) (c*c+d*d).toNat) (qv (b*c-a*d) (c*c+d*d).toNat)
  (qu2 (r*rtu (c*c+d*d)+rtu (a*a+b*b)*s).toNat ((rt (c*c+d*d)-s)*rt (c*c+d*d)).toNat+b1 (qi (a*c+b*d) (c*c+d*d).toNat||qi (b*c-a*d) (c*c+d*d).toNat)) 0
def quotM (a b r c d s:Int):Res:=onTwo a b r c d s (quoR a b r c d s)
theorem quo_bounds {a b r c d s:Int} (h:Right a b r) (h':Right c d s) (hD:s<rt (c*c+d*d)) :
  rt (c*c+d*d)≤1073741824∧(0≤r*rtu (c*c+d*d)∧r*rtu (c*c+d*d)≤1152921504606846976)∧(0≤rtu (a*a+b*b)*s∧rtu (a*a+b*b)*s≤1152921504606846976) ∧
  (1≤(rt (c*c+d*d)-s)*rt (c*c+d*d)∧(rt (c*c+d*d)-s)*rt (c*c+d*d)≤1152921504606846976)∧1≤c*c+d*d∧c*c+d*d≤576460752303423488:=by
 have q1:=h.sh.1.sq h.sh.2
 have q2:=h'.sh.1.sq h'.sh.2
 have u1:=rtu_bd q1.1 (by omega)
 have u2:=rtu_bd q2.1 (by omega)
 obtain⟨_,r0,r1⟩:=h
 obtain⟨_,s0,s1⟩:=h'
 have t1:=rt_le (b:=1073741824) q2.1 (by omega) (by omega) (by omega)
 have t2:=rt_spec q2.1 (by omega)
 have m1:=mul_bd r0 r1 u2.1 u2.2
 have m2:=mul_bd u1.1 u1.2 s0 s1
 have m3:=mul_bd (a:=rt (c*c+d*d)-s) (b:=rt (c*c+d*d)) (A:=1073741824) (B:=1073741824) (by omega) (by omega) (by omega) (by omega)
 have m4:1*1≤(rt (c*c+d*d)-s)*rt (c*c+d*d):=Int.mul_le_mul (by omega) (by omega) (by omega) (by omega)
 have m5:1*1≤rt (c*c+d*d)*rt (c*c+d*d):=Int.mul_le_mul (by omega) (by omega) (by omega) (by omega)
 refine⟨t1,⟨m1.1,by omega⟩,⟨m2.1,by omega⟩,⟨by omega,by omega⟩,by omega,by omega⟩
theorem qu2_bd (t E:Nat):0≤qu2 t E∧qu2 t E≤2147483648:=by
 unfold qu2
 by_cases h:2147483647≤t*1048576/E
 ·rw[if_pos h];omega
 ·rw[if_neg h]
  by_cases hE:E=0
  ·subst hE;simp
  ·rw[up_nat (by omega)]
   have g:0≤((t*1048576/E:Nat):Int):=Int.natCast_nonneg _
   generalize t*1048576/E=u at *
   split<;>omega
theorem ru_bd (t E:Nat) (hE:1≤E) (ht:t≤2305843009213693952):0≤ru t E∧ru t E≤2305843009213693953:=by
 unfold ru
 by_cases h:rBig t E
 ·rw[if_pos h,up_size (by omega)]
  have a:0≤(t:Int)/(E:Int):=Int.ediv_nonneg (by omega) (by omega)
  have b:(t:Int)/(E:Int)≤2305843009213693952:=ediv_hi (by omega) (by omega) (by omega)
  split<;>omega
 ·rw[if_neg h,up_size (by omega)]
  unfold rBig at h
  have hb:=scaled_bound (n:=(t:Int)) (b:=(E:Int)) (by omega) (by omega) (by omega) 1048576 (by omega) (by omega)
  have a:0≤(t:Int)*1048576/(E:Int):=Int.ediv_nonneg (by omega) (by omega)
  split<;>omega
theorem quotientUp_u (a N:Nat) (w:World) (a1:a≤4611686018427387904) (b1:1≤N) (b2:N≤1152921504606846976) :
  Calls Tryz.prog 196 #[.int .i64 a,.int .i64 1048576,.int .i64 N] w fun e w'=>e = .returned (.int .i64 (qu2 a N))∧∃k,w'=w.drewN k:=by
 unfold qu2
 exact quotientUp_any a N w a1 b1 b2
theorem Quotient_does (a b r c d s:Int) (w:World) (h:Right a b r) (h':Right c d s) :
  (rt (c*c+d*d)≤s→Calls Tryz.prog 193 #[.agg #[.int .i64 a,.int .i64 b,.int .i64 r],.agg #[.int .i64 c,.int .i64 d,.int .i64 s]] w fun e w'=>e = .returned (.tuple #[.agg #[.int .i64 a,.int .i64 b,.int .i64 r],.int .i64 9])∧Below w.heap.size w w') ∧
  (s<rt (c*c+d*d)→Calls Tryz.prog 193 #[.agg #[.int .i64 a,.int .i64 b,.int .i64 r],.agg #[.int .i64 c,.int .i64 d,.int .i64 s]] w fun e w' =>
   e = .returned (.tuple #[.agg #[.int .i64 (qv (a*c+b*d) (c*c+d*d).toNat),.int .i64 (qv (b*c-a*d) (c*c+d*d).toNat),
    .int .i64 (qu2 (r*rtu (c*c+d*d)+rtu (a*a+b*b)*s).toNat ((rt (c*c+d*d)-s)*rt (c*c+d*d)).toNat+b1 (qi (a*c+b*d) (c*c+d*d).toNat||qi (b*c-a*d) (c*c+d*d).toNat))],.int .i64 0])∧Below w.heap.size w w'):=by
 have cd:=fun w=>down_any c d w h'.sh.1 h'.sh.2
 constructor
 ·intro hle
  exact quotient1_no a b r c d s _ w hle cd
 ·intro hlt
  obtain⟨B1,B2,B3,B4,B5,B6⟩:=quo_bounds h h' hlt
  have eN:(((c*c+d*d).toNat:Nat):Int)=c*c+d*d:=by omega
  have eT:(((r*rtu (c*c+d*d)+rtu (a*a+b*b)*s).toNat:Nat):Int)=r*rtu (c*c+d*d)+rtu (a*a+b*b)*s:=by omega
  have eE:((((rt (c*c+d*d)-s)*rt (c*c+d*d)).toNat:Nat):Int)=(rt (c*c+d*d)-s)*rt (c*c+d*d):=by omega
  have cs:=fun w=>square_any c d w h'.sh.1.sm h'.sh.2.sm
  rw[← eN]at cs
  have n1:=h.sh.1.sm.mul h'.sh.1.sm
  have n2:=h.sh.2.sm.mul h'.sh.2.sm
  have n3:=h.sh.2.sm.mul h'.sh.1.sm
  have n4:=h.sh.1.sm.mul h'.sh.2.sm
  have ct:=fun w=>times_any a b c (-d) w h.sh.1.sm h.sh.2.sm h'.sh.1.sm ⟨by have:=h'.1.2.2.2;omega,by have:=h'.1.2.2.1;omega⟩
  rw[show a*c-b * -d=a*c+b*d by rw[Int.mul_neg];omega,show a * -d+b*c=b*c-a*d by rw[Int.mul_neg];omega]at ct
  have q1:=fun w=>quotient_any (a*c+b*d) (c*c+d*d).toNat w (by omega) (by omega) (by omega) (by omega)
  have q2:=fun w=>quotient_any (b*c-a*d) (c*c+d*d).toNat w (by omega) (by omega) (by omega) (by omega)
  have cu:=fun w=>quotientUp_u (r*rtu (c*c+d*d)+rtu (a*a+b*b)*s).toNat ((rt (c*c+d*d)-s)*rt (c*c+d*d)).toNat w (by omega) (by omega) (by omega)
  have ub:=qu2_bd (r*rtu (c*c+d*d)+rtu (a*a+b*b)*s).toNat ((rt (c*c+d*d)-s)*rt (c*c+d*d)).toNat
  rw[eT,eE]at cu
  exact quotient1_yes a b r c d s _ _ _ _ _ _ _ _ _ _ _ w hlt h'.2.1 cd (fun w=>conj_any c d w h'.sh.2.sm) ct cs q1 q2 (fun w=>up_any a b w h.sh.1 h.sh.2) (fun w=>up_any c d w h'.sh.1 h'.sh.2) cu B1 B2 B3 ⟨by omega,B4.2⟩ ub.1 (by omega)
set_option maxHeartbeats 1000000 in
theorem Quotient_frame (x y r x' y' r' a b c q:Int) (w:World) (f1:Flo x) (f2:Flo y) (g1:Flo x') (g2:Flo y')
  (hd:∀w,Right x y r→Right x' y' r'→Does2 193 #[] x y r x' y' r' w (.tuple #[.agg #[.int .i64 a,.int .i64 b,.int .i64 c],.int .i64 q])) :
  Calls Tryz.prog 128 #[.agg #[.complex .f64 (fl x) (fl y),.int .i64 r],.agg #[.complex .f64 (fl x') (fl y'),.int .i64 r']] w fun e w'=>e = .returned (out (onTwo x y r x' y' r' (fin a b c q)))∧Below w.heap.size w w':=by
 rw[out_quad]
 go_enter Tryz.func128,Tryz.ntmps128
 go_wp2_with fail
 refine(binary_any _ x y r x' y' r' _ _ _ _ _ f1 f2 g1 g2 (enters_of Tryz.func193 (by kernel_rfl) rfl) (hd _)).mono ?_
 rintro e w1 ⟨rfl,A0⟩
 have A5:=A0.size
 (try simp at A5)
 have A6:=bl5 A0 (w.heap.size+1+1)
 rw[out_quad]
 go_wp2
 refine bodyPost_ret (by simp[results,Tryz.results128,go_sem, *];first|done|rfl) rfl ?_
 exact⟨rfl,blw⟩
theorem Quotient_any (x y r x' y' r':Int) (w:World) (f1:Flo x) (f2:Flo y) (g1:Flo x') (g2:Flo y') :
  Calls Tryz.prog 128 #[.agg #[.complex .f64 (fl x) (fl y),.int .i64 r],.agg #[.complex .f64 (fl x') (fl y'),.int .i64 r']] w fun e w'=>e = .returned (out (quotM x y r x' y' r'))∧Below w.heap.size w w':=by
 unfold quotM quoR
 by_cases hD:rt (x'*x'+y'*y')≤r'
 ·rw[if_pos hD,← fin_bad x y r 9 (by omega)]
  exact Quotient_frame x y r x' y' r' _ _ _ _ w f1 f2 g1 g2 fun w h h' w1 _=>by
   rw[Array.append_empty]
   exact(Quotient_does x y r x' y' r' w1 h h').1 hD
 ·rw[if_neg hD]
  exact Quotient_frame x y r x' y' r' _ _ _ _ w f1 f2 g1 g2 fun w h h' w1 _=>by
   rw[Array.append_empty]
   exact(Quotient_does x y r x' y' r' w1 h h').2 (by omega)
theorem rQuotient_any (a b r c d s:Int) (w:World) (h:Right a b r) (h':Right c d s) :
  Calls Tryz.prog 136 #[.agg #[.int .i64 a,.int .i64 b,.int .i64 r],.agg #[.int .i64 c,.int .i64 d,.int .i64 s]] w fun e w'=>e = .returned (outR (quoR a b r c d s))∧Below w.heap.size w w':=by
 have cd:=fun w=>Down_any c d s w h'.sh.1 h'.sh.2
 unfold quoR
 by_cases hD:rt (c*c+d*d)≤s
 ·rw[if_pos hD]
  exact rQuotient_no a b r c d s _ w hD cd
 ·rw[if_neg hD]
  have hlt:s<rt (c*c+d*d):=by omega
  obtain⟨B1,B2,B3,B4,B5,B6⟩:=quo_bounds h h' hlt
  have eN:(((c*c+d*d).toNat:Nat):Int)=c*c+d*d:=by omega
  have eT:(((r*rtu (c*c+d*d)+rtu (a*a+b*b)*s).toNat:Nat):Int)=r*rtu (c*c+d*d)+rtu (a*a+b*b)*s:=by omega
  have eE:((((rt (c*c+d*d)-s)*rt (c*c+d*d)).toNat:Nat):Int)=(rt (c*c+d*d)-s)*rt (c*c+d*d):=by omega
  have n1:=h.sh.1.sm.mul h'.sh.1.sm
  have n2:=h.sh.2.sm.mul h'.sh.2.sm
  have n3:=h.sh.2.sm.mul h'.sh.1.sm
  have n4:=h.sh.1.sm.mul h'.sh.2.sm
  have q1:=fun w=>bSR_any (a*c+b*d) (c*c+d*d).toNat w (by omega) (by omega) (by omega) (by omega)
  have q2:=fun w=>bSR_any (b*c-a*d) (c*c+d*d).toNat w (by omega) (by omega) (by omega) (by omega)
  have cu:=fun w=>bScaledUp_any (r*rtu (c*c+d*d)+rtu (a*a+b*b)*s).toNat ((rt (c*c+d*d)-s)*rt (c*c+d*d)).toNat w (by omega) (by omega) (by omega)
  have ub:=ru_bd (r*rtu (c*c+d*d)+rtu (a*a+b*b)*s).toNat ((rt (c*c+d*d)-s)*rt (c*c+d*d)).toNat (by omega) (by omega)
  rw[← quot_same _ _ _ _ _ (by omega) (by omega)]
  rw[eT,eE]at cu
  rw[eN]at q1 q2
  exact rQuotient_yes a b r c d s _ _ _ _ _ _ _ _ _ w hlt h'.2.1 cd q1 q2 (fun w=>Up_any a b r w h.sh.1 h.sh.2) (fun w=>Up_any c d s w h'.sh.1 h'.sh.2) cu (fun w=>Checked_any _ _ _ w) h.sh.1.sm h.sh.2.sm h'.sh.1.sm h'.sh.2.sm B1 B2 B3 ⟨by omega,B4.2⟩ ub.1 (by omega)
end Go.Proofs.YticobgianbecpaaGreatDoor
