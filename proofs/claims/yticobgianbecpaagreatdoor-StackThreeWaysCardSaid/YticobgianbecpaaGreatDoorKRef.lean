/- Joined: Ref Ref2 Ref3 Ref4 Ref5. -/
import Derived.Test.YticobgianbecpaaGreatDoorKBall
namespace Go.Proofs.YticobgianbecpaaGreatDoor
open Go.RowKit
set_option maxHeartbeats 400000 in
theorem bFloor_any (n b:Int) (w:World) (h1 : -9223372036854775808≤n) (h2:n≤9223372036854775807) (h3:1≤b) (h4:b≤9223372036854775807) :
  Calls Tryz.prog 58 #[.int .i64 n,.int .i64 b] w fun e w'=>e = .returned (.int .i64 (n/b))∧w'=w:=by
 go_enter Tryz.func58,Tryz.ntmps58
 go_wp2
 ·have h:n.tmod b<0:=by assumption
  have e:=floor_low (by omega) h
  have hw:wrap64 (n.tdiv b-1)=n/b:=by rw[e];exact IntWalk.wrap64_in _ ⟨ediv_lo h3 h1 (by omega),ediv_hi h3 h2 (by omega)⟩
  go_ret
  exact⟨ret_int hw,rfl⟩
 ·have h:0≤n.tmod b:=by assumption
  go_ret
  exact⟨ret_int (floor_high (by omega) h),rfl⟩
set_option maxHeartbeats 400000 in
theorem bCeil_any (n b:Int) (w:World) (h1 : -9223372036854775807≤n) (h2:n≤9223372036854775807) (h3:1≤b) (h4:b≤9223372036854775807) :
  Calls Tryz.prog 59 #[.int .i64 n,.int .i64 b] w fun e w'=>e = .returned (.int .i64 (-(-n/b)))∧w'=w:=by
 have hb : -9223372036854775807 ≤ -n/b ∧ -n/b≤9223372036854775807:=⟨ediv_lo h3 (by omega) (by omega),ediv_hi h3 (by omega) (by omega)⟩
 go_enter Tryz.func59,Tryz.ntmps59
 go_wp2_with (go_at_call 58;refine(bFloor_any _ _ _ (by omega) (by omega) (by omega) (by omega)).mono ?_;rintro e w' ⟨rfl,rfl⟩)
 go_ret
 exact⟨rfl,rfl⟩
theorem rt_def (n:Int):rt n=(rootBits n.toNat 31 0:Nat):=by unfold rt;rfl
set_option maxHeartbeats 400000 in
theorem bRoot_any (n:Int) (w:World) (h1:0≤n) (h2:n≤9223372036854775807) :
  Calls Tryz.prog 176 #[.int .i64 n] w fun e w'=>e = .returned (.int .i64 (rt n))∧w'=w:=by
 have hrt:=Lib.hid (rt_def n)
 go_enter Tryz.func176,Tryz.ntmps176
 go_wp2
 go_loop [3,4] (fun r b=>∃(k R:Nat),k≤31∧R+2^k≤2147483648∧Hid (rt n=(rootBits n.toNat k R:Nat))∧r = .int .i64 R∧b = .int .i64 ((2^k/2:Nat))) (fun _ b=>(intOf b).toNat)
 case atStart=>exact⟨31,0,by omega,by decide,hrt,rfl,rfl⟩
 case round =>
  obtain⟨k,R,hk,hR,hH,rfl,rfl⟩:=hrel
  clear hrt
  cases k with
  | zero =>
   go_wp2
   go_ret
   exact⟨ret_int hH.out.symm,rfl⟩
  | succ j =>
   have e2:2^(j+1)=2*2^j:=by rw[Nat.pow_succ];omega
   have e3:2^(j+1)/2=2^j:=by omega
   have hp:0<2^j:=Nat.two_pow_pos j
   rw[e3]
   have hR2:R+2*2^j≤2147483648:=by omega
   have hs:((2^j:Nat):Int)/2=((2^j/2:Nat):Int):=by omega
   have hH2:Hid (rt n=(rootBits n.toNat j (if (R+2^j)*(R+2^j)≤n.toNat then R+2^j else R):Nat)):=by
    have:=hH.out
    unfold rootBits at this
    exact this
   clear hH e2 e3 hR
   generalize hQ:2^j=Q at *
   have HQ:=Lib.hid hQ
   clear hQ
   have hs2:=Lib.hid hs
   clear hs
   have q:=mul_bd (a:=(R:Int)+Q) (b:=(R:Int)+Q) (A:=2147483648) (B:=2147483648) (by omega) (by omega) (by omega) (by omega)
   have qn:((R+Q)*(R+Q):Nat)=((R:Int)+Q)*((R:Int)+Q):=by push_cast;rfl
   have QN:=Lib.hid qn
   clear qn
   by_cases hc:((R:Int)+Q)*((R:Int)+Q)≤n
   ·go_wp2
    go_round
    case rel =>
     rw[if_pos (by have:=QN.out;omega)]at hH2
     exact⟨j,R+Q,by omega,by rw[HQ.out];omega,hH2,by go_num,by rw[HQ.out,← hs2.out]⟩
    case measure=>simp[intOf];omega
   ·go_wp2
    go_round
    case rel =>
     rw[if_neg (by have:=QN.out;omega)]at hH2
     exact⟨j,R,by omega,by rw[HQ.out];omega,hH2,rfl,by rw[HQ.out,← hs2.out]⟩
    case measure=>simp[intOf];omega
set_option maxHeartbeats 400000 in
theorem bRootUp_any (n:Int) (w:World) (h1:0≤n) (h2:n≤1152921504606846976) :
  Calls Tryz.prog 180 #[.int .i64 n] w fun e w'=>e = .returned (.int .i64 (rtu n))∧w'=w:=by
 have r0:=rt_nonneg n
 have r1:=rt_lt31 h1 (by omega)
 have r2:=(rt_spec h1 (by omega)).1
 have r3:0≤rt n*rt n:=Int.mul_nonneg r0 r0
 have hu:∀k,k=rtu n→Ending.returned (.int .i64 k) = .returned (.int .i64 (rtu n)):=fun k hk=>by rw[hk]
 have Hu:=Lib.hid hu
 clear hu
 by_cases h:rt n*rt n<n
 all_goals
  go_enter Tryz.func180,Tryz.ntmps180
  go_wp2_with (go_at_call 176;refine(bRoot_any _ _ (by omega) (by omega)).mono ?_;rintro e w' ⟨rfl,rfl⟩)
  go_ret
  exact⟨Hu.out _ (by unfold rtu;first|rw[if_pos h]|rw[if_neg (by omega)]),rfl⟩
set_option maxHeartbeats 400000 in
theorem Up_any (a b c:Int) (w:World) (h1:Sh a) (h2:Sh b) :
  Calls Tryz.prog 139 #[.agg #[.int .i64 a,.int .i64 b,.int .i64 c]] w fun e w'=>e = .returned (.int .i64 (rtu (a*a+b*b)))∧Below w.heap.size w w':=by
 have q:=h1.sq h2
 have q1:=h1.sm.mul h1.sm
 have q2:=h2.sm.mul h2.sm
 go_enter Tryz.func139,Tryz.ntmps139
 go_wp2_with (go_at_call 180;refine(bRootUp_any _ _ (by omega) (by omega)).mono ?_;rintro e w' ⟨rfl,rfl⟩)
 go_ret
 exact⟨rfl,blw⟩
set_option maxHeartbeats 400000 in
theorem Down_any (a b c:Int) (w:World) (h1:Sh a) (h2:Sh b) :
  Calls Tryz.prog 138 #[.agg #[.int .i64 a,.int .i64 b,.int .i64 c]] w fun e w'=>e = .returned (.int .i64 (rt (a*a+b*b)))∧Below w.heap.size w w':=by
 have q:=h1.sq h2
 have q1:=h1.sm.mul h1.sm
 have q2:=h2.sm.mul h2.sm
 go_enter Tryz.func138,Tryz.ntmps138
 go_wp2_with (go_at_call 176;refine(bRoot_any _ _ (by omega) (by omega)).mono ?_;rintro e w' ⟨rfl,rfl⟩)
 go_ret
 exact⟨rfl,blw⟩
set_option maxHeartbeats 400000 in
theorem more_any (b:Bool) (w:World) :
  Calls Tryz.prog 202 #[.bool b] w fun e w'=>e = .returned (.int .i64 (b1 b))∧w'=w:=by
 cases b
 all_goals
  go_enter Tryz.func202,Tryz.ntmps202
  go_wp2
  go_ret
  simp[b1_true,b1_false]
set_option maxHeartbeats 400000 in
theorem bWithin_any (n lo hi:Int) (w:World) :
  Calls Tryz.prog 14 #[.int .i64 n,.int .i64 lo,.int .i64 hi] w fun e w'=>e = .returned (.bool (decide (lo≤n)&&decide (n≤hi)))∧w'=w:=by
 by_cases h1:lo≤n<;>by_cases h2:n≤hi
 all_goals
  go_enter Tryz.func14,Tryz.ntmps14
  go_wp2
  go_ret
  simp[h1,h2]
set_option maxHeartbeats 400000 in
theorem isPart_any (n:Int) (w:World) :
  Calls Tryz.prog 228 #[.int .i64 n] w fun e w'=>e = .returned (.bool (decide (-67108864≤n)&&decide (n≤67108864)))∧w'=w:=by
 go_enter Tryz.func228,Tryz.ntmps228
 go_wp2_with (go_at_call 14;refine(bWithin_any _ _ _ _).mono ?_;rintro e w' ⟨rfl,rfl⟩)
 go_ret
 exact⟨rfl,rfl⟩
def outR:Res→Value
 | .bad q => .tuple #[.agg #[.int .i64 0,.int .i64 0,.int .i64 0],.int .i64 q]
 | .good a b c => .tuple #[.agg #[.int .i64 a,.int .i64 b,.int .i64 c],.int .i64 0]
theorem fin_zero (a b c:Int):fin a b c 0=if Right a b c then .good a b c else .bad 8:=by unfold fin;rw[if_neg (by simp)]
set_option maxHeartbeats 1000000 in
theorem Checked_any (a b c:Int) (w:World) :
  Calls Tryz.prog 178 #[.agg #[.int .i64 a,.int .i64 b,.int .i64 c]] w fun e w'=>e = .returned (outR (fin a b c 0))∧Below w.heap.size w w':=by
 rw[fin_zero]
 by_cases h:Right a b c
 ·rw[if_pos h]
  obtain⟨⟨h1,h2,h3,h4⟩,h5,h6⟩:=h
  have a1:(decide ((-67108864:Int)≤a)&&decide (a≤67108864))=true:=by simp[h1,h2]
  have a2:(decide ((-67108864:Int)≤b)&&decide (b≤67108864))=true:=by simp[h3,h4]
  have a3:(decide ((0:Int)≤c)&&decide (c≤67108864))=true:=by simp[h5,h6]
  unfold outR
  go_enter Tryz.func178,Tryz.ntmps178
  go_wp2_with (first
   | (go_at_call 228;(with_reducible refine(isPart_any _ _).mono ?_);rintro e w' ⟨rfl,rfl⟩;(first|rw[a1]|rw[a2]))
   | (go_at_call 14;(with_reducible refine(bWithin_any _ _ _ _).mono ?_);rintro e w' ⟨rfl,rfl⟩;rw[a3]))
  refine bodyPost_ret (by simp[results,Tryz.results178,go_sem, *];first|done|rfl) rfl ?_
  exact⟨rfl,blw⟩
 ·rw[if_neg h]
  obtain⟨b1,a1⟩:∃t,(decide ((-67108864:Int)≤a)&&decide (a≤67108864))=t:=⟨_,rfl⟩
  obtain⟨b2,a2⟩:∃t,(decide ((-67108864:Int)≤b)&&decide (b≤67108864))=t:=⟨_,rfl⟩
  obtain⟨b3,a3⟩:∃t,(decide ((0:Int)≤c)&&decide (c≤67108864))=t:=⟨_,rfl⟩
  have hb:(b1&&b2&&b3)=false:=by
   rw[Bool.eq_false_iff]
   intro hh
   simp only[Bool.and_eq_true]at hh
   obtain⟨⟨rfl,rfl⟩,rfl⟩:=hh
   simp at a1 a2 a3
   exact h ⟨⟨a1.1,a1.2,a2.1,a2.2⟩,a3⟩
  clear h
  have A1:=Lib.hid a1
  have A2:=Lib.hid a2
  have A3:=Lib.hid a3
  clear a1 a2 a3
  unfold outR
  cases b1<;>cases b2<;>cases b3<;>first|exact absurd hb (by decide)|skip
  all_goals
   clear hb
   go_enter Tryz.func178,Tryz.ntmps178
   go_wp2_with (first
    | (go_at_call 228;(with_reducible refine(isPart_any _ _).mono ?_);rintro e w' ⟨rfl,rfl⟩;(first|rw[A1.out]|rw[A2.out]))
    | (go_at_call 14;(with_reducible refine(bWithin_any _ _ _ _).mono ?_);rintro e w' ⟨rfl,rfl⟩;rw[A3.out]))
   refine bodyPost_ret (by simp[results,Tryz.results178,go_sem, *];first|done|rfl) rfl ?_
   exact⟨rfl,blw⟩
theorem round_eq {n b:Int} (hb:0<b):(2*n+b)/(2*b)=if b-n%b≤n%b then n/b+1 else n/b:=by
 have h1:=Int.mul_ediv_add_emod n b
 have h2:=Int.emod_nonneg n (show b≠0 by omega)
 have h3:=Int.emod_lt_of_pos n hb
 have e:2*n+b=2*b*(n/b)+(2*(n%b)+b):=by rw[Int.mul_assoc];omega
 by_cases h:b-n%b≤n%b
 ·rw[if_pos h]
  have e2:2*b*(n/b+1)=2*b*(n/b)+2*b:=by rw[Int.mul_add];omega
  exact((Int.ediv_emod_unique (a:=2*n+b) (b:=2*b) (r:=2*(n%b)-b) (q:=n/b+1) (by omega)).2 ⟨by omega,by omega,by omega⟩).1
 ·rw[if_neg h]
  exact((Int.ediv_emod_unique (a:=2*n+b) (b:=2*b) (r:=2*(n%b)+b) (q:=n/b) (by omega)).2 ⟨by omega,by omega,by omega⟩).1
theorem rounded_aux (n b:Int) (hb:0<b):∃q r,n/b=q∧n=q*b+r∧0≤r∧r<b∧n%b=r:=by
 have m1:=Int.mul_ediv_add_emod n b
 exact⟨n/b,n%b,rfl,by rw[Int.mul_comm (n/b)];omega,Int.emod_nonneg n (by omega),Int.emod_lt_of_pos n hb,rfl⟩
set_option maxHeartbeats 400000 in
theorem bRounded_any (n b:Int) (w:World) (h1 : -2305843009213693952≤n) (h2:n≤2305843009213693952) (h3:1≤b) (h4:b≤2305843009213693952) :
  Calls Tryz.prog 201 #[.int .i64 n,.int .i64 b] w fun e w'=>e = .returned (.tuple #[.int .i64 ((2*n+b)/(2*b)),.bool (n%b != 0)])∧w'=w:=by
 have m4 : -2305843009213693952≤n/b∧n/b≤2305843009213693952:=⟨ediv_lo h3 h1 (by omega),ediv_hi h3 h2 (by omega)⟩
 obtain⟨q,r,hq,hn,r0,r1,hr⟩:=rounded_aux n b (by omega)
 rw[hq]at m4
 have hx:(2*n+b)/(2*b)=if b-r≤r then q+1 else q:=by rw[round_eq (by omega),hr,hq]
 rw[hx,hr]
 clear hx hr
 have HQ:=Lib.hid hq
 have HN:=Lib.hid (show n-q*b=r by omega)
 have p0:n-q*b≤r:=by omega
 have p1:r≤n-q*b:=by omega
 clear hq hn
 by_cases h:b-r≤r
 ·go_enter Tryz.func201,Tryz.ntmps201
  go_wp2_with fail
  refine(bFloor_any _ _ _ (by omega) (by omega) (by omega) (by omega)).mono ?_
  rintro e w' ⟨rfl,rfl⟩
  rw[HQ.out]
  go_wp2
  go_ret2
  exact⟨ret_pair_ib (by first|rfl|rw[if_pos h]) (by simp;omega),rfl⟩
 ·go_enter Tryz.func201,Tryz.ntmps201
  go_wp2_with fail
  refine(bFloor_any _ _ _ (by omega) (by omega) (by omega) (by omega)).mono ?_
  rintro e w' ⟨rfl,rfl⟩
  rw[HQ.out]
  go_wp2
  go_ret2
  exact⟨ret_pair_ib (by first|rfl|rw[if_neg (by omega)]) (by rw[HN.out]),rfl⟩
end Go.Proofs.YticobgianbecpaaGreatDoor
namespace Go.Proofs.YticobgianbecpaaGreatDoor
open Go.RowKit
theorem Checked_good {a b c p q r:Int} (h:fin a b c 0 = .good p q r) (w:World) :
  Calls Tryz.prog 178 #[.agg #[.int .i64 a,.int .i64 b,.int .i64 c]] w fun e w'=>e = .returned (.tuple #[.agg #[.int .i64 p,.int .i64 q,.int .i64 r],.int .i64 0])∧Below w.heap.size w w':=by
 have:=Checked_any a b c w
 rwa [h]at this
theorem Checked_bad {a b c q:Int} (h:fin a b c 0 = .bad q) (w:World) :
  Calls Tryz.prog 178 #[.agg #[.int .i64 a,.int .i64 b,.int .i64 c]] w fun e w'=>e = .returned (.tuple #[.agg #[.int .i64 0,.int .i64 0,.int .i64 0],.int .i64 q])∧Below w.heap.size w w':=by
 have:=Checked_any a b c w
 rwa [h]at this
set_option maxHeartbeats 2000000 in
theorem rTimes_any (a b r c d s:Int) (w:World) (h:Right a b r) (h':Right c d s) :
  Calls Tryz.prog 135 #[.agg #[.int .i64 a,.int .i64 b,.int .i64 r],.agg #[.int .i64 c,.int .i64 d,.int .i64 s]] w fun e w' =>
   e = .returned (outR (fin (rnd (a*c-b*d)) (rnd (a*d+b*c)) (timesR a b r c d s) 0))∧Below w.heap.size w w':=by
 obtain⟨h1,h2⟩:=h.sh
 obtain⟨h3,h4⟩:=h'.sh
 obtain⟨_,r0,r1⟩:=h
 obtain⟨_,s0,s1⟩:=h'
 have q1:=h1.sm.mul h3.sm
 have q2:=h2.sm.mul h4.sm
 have q3:=h1.sm.mul h4.sm
 have q4:=h2.sm.mul h3.sm
 have u1:=rtu_bd (h1.sq h2).1 (by have:=(h1.sq h2).2;omega)
 have u2:=rtu_bd (h3.sq h4).1 (by have:=(h3.sq h4).2;omega)
 have m1:=mul_bd u1.1 u1.2 s0 s1
 have m2:=mul_bd u2.1 u2.2 r0 r1
 have m3:=mul_bd r0 r1 s0 s1
 have o1:=b1_bd ((a*d+b*c)%1048576 != 0)
 have o2:=b1_bd true
 obtain⟨res,hres⟩:∃res,fin (rnd (a*c-b*d)) (rnd (a*d+b*c)) (timesR a b r c d s) 0=res:=⟨_,rfl⟩
 have Hres:=Lib.hid hres
 rw[hres]
 clear hres
 obtain⟨x,hx⟩:∃x,x=inx (a*c-b*d):=⟨_,rfl⟩
 have Hx:=Lib.hid hx
 clear hx
 have h3':=Hres.out
 unfold timesR at h3'
 rw[← Hx.out]at h3'
 have HR:=Lib.hid h3'
 clear h3' Hres
 cases x<;>cases res
 all_goals
  unfold outR
  go_enter Tryz.func135,Tryz.ntmps135
  go_wp2_with fail
  refine(bRounded_any _ _ _ (by omega) (by omega) (by omega) (by omega)).mono ?_
  rintro e w' ⟨rfl,rfl⟩
  rw[show((a*c-b*d)%1048576 != 0)=_ from Hx.out.symm]
  go_wp2_with fail
  refine(bRounded_any _ _ _ (by omega) (by omega) (by omega) (by omega)).mono ?_
  rintro e w' ⟨rfl,rfl⟩
  go_wp2_with fail
  refine calm 30 (by kernel_rfl) (by kernel_rfl) fun hG => ?_
  have A9:=hG (w.heap.size) lto
  have A4:=hG (w.heap.size+1) lto
  have A5:=hG (w.heap.size+1+1) lto
  clear hG
  simp only[List.take_succ_cons,List.take_zero,List.drop_succ_cons,List.drop_zero]
  repeat (go_big_quiet_step (first|(go_at_call 139;first|with_reducible exact calm_call (fun w=>Up_any a b r w h1 h2)|with_reducible exact calm_call (fun w=>Up_any c d s w h3 h4))|(go_at_call 59;with_reducible exact calm_same (fun w=>bCeil_any _ _ w (by omega) (by omega) (by omega) (by omega)))|(go_at_call 202;with_reducible exact calm_same (fun w=>more_any _ w))|(go_at_call 178;first|exact calm_call (fun w=>Checked_good HR.out w)|exact calm_call (fun w=>Checked_bad HR.out w))))
  refine wpQuiet_nil ?_
  intro w2 A0
  clear A9 A4 A5
  have Ab:=bl5 A0 (w.heap.size)
  have A7:=bl5 A0 (w.heap.size+1)
  have A8:=bl5 A0 (w.heap.size+1+1)
  go_wp2
  refine bodyPost_ret (by simp[results,Tryz.results135,go_sem, *];first|done|rfl) rfl ?_
  exact⟨rfl,blw⟩
end Go.Proofs.YticobgianbecpaaGreatDoor
namespace Go.Proofs.YticobgianbecpaaGreatDoor
open Go.RowKit
set_option maxHeartbeats 400000 in
theorem Num_any (x y:Int) (w:World) :
  Calls Tryz.prog 98 #[.int .i64 x,.int .i64 y] w fun e w'=>e = .returned (.complex .f64 (fl x) (fl y))∧w'=w:=by
 go_enter Tryz.func98,Tryz.ntmps98
 go_wp2
 go_ret
 exact⟨rfl,rfl⟩
set_option maxHeartbeats 400000 in
theorem bBall_any (x y r:Int) (w:World) :
  Calls Tryz.prog 34 #[.int .i64 x,.int .i64 y,.int .i64 r] w fun e w'=>e = .returned (.agg #[.complex .f64 (fl x) (fl y),.int .i64 r])∧Below w.heap.size w w':=by
 go_enter Tryz.func34,Tryz.ntmps34
 go_wp2_with (go_at_call 98;(with_reducible refine(Num_any _ _ _).mono ?_);rintro e w' ⟨rfl,rfl⟩)
 refine bodyPost_ret (by simp[results,Tryz.results34,go_sem, *];first|done|rfl) rfl ?_
 exact⟨rfl,blw⟩
set_option maxHeartbeats 400000 in
theorem rBall_any (x y r:Int) (w:World) :
  Calls Tryz.prog 89 #[.agg #[.int .i64 x,.int .i64 y,.int .i64 r]] w fun e w'=>e = .returned (.agg #[.complex .f64 (fl x) (fl y),.int .i64 r])∧Below w.heap.size w w':=by
 go_enter Tryz.func89,Tryz.ntmps89
 go_wp2_with (go_at_call 34;(with_reducible refine(bBall_any _ _ _ _).mono ?_);rintro e w1 ⟨rfl,hb1⟩;have Aa:=bl5 hb1 (w.heap.size);have A6:=bl5 hb1 (w.heap.size+1))
 refine bodyPost_ret (by simp[results,Tryz.results89,go_sem, *];first|done|rfl) rfl ?_
 exact⟨rfl,blw⟩
end Go.Proofs.YticobgianbecpaaGreatDoor
namespace Go.Proofs.YticobgianbecpaaGreatDoor
open Go.RowKit
end Go.Proofs.YticobgianbecpaaGreatDoor
namespace Go.Proofs.YticobgianbecpaaGreatDoor
open Go.RowKit
set_option maxHeartbeats 400000 in
theorem SameBits_same (a b:Nat) (w:World) :
  Calls Tryz.prog 97 #[.complex .f64 a b,.complex .f64 a b] w fun e w'=>e = .returned (.bool true)∧w'=w:=by
 have hx:=fun w=>run_bits a w
 have hy:=fun w=>run_bits b w
 go_enter Tryz.func97,Tryz.ntmps97
 go_wp2
 go_ret
 exact⟨rfl,rfl⟩
set_option maxHeartbeats 400000 in
theorem SameBall_same (a b:Nat) (r:Int) (w:World) :
  Calls Tryz.prog 33 #[.agg #[.complex .f64 a b,.int .i64 r],.agg #[.complex .f64 a b,.int .i64 r]] w fun e w'=>e = .returned (.bool true)∧Below w.heap.size w w':=by
 go_enter Tryz.func33,Tryz.ntmps33
 go_wp2_with (go_at_call 97;(with_reducible refine(SameBits_same _ _ _).mono ?_);rintro e w' ⟨rfl,rfl⟩)
 go_ret
 exact⟨rfl,blw⟩
end Go.Proofs.YticobgianbecpaaGreatDoor
