/- Joined: Sizes Awake1 Awake2 Awake3 Awake. -/
import Derived.Test.YticobgianbecpaaGreatDoorKRef
import Derived.Test.YticobgianbecpaaGreatDoorKCalm
import Derived.Lib.Mul64
import Derived.Shelf.Bits.Mul64
namespace Go.Proofs.YticobgianbecpaaGreatDoor
open Go.RowKit
set_option maxHeartbeats 1000000 in
theorem sizes_any (x y r:Int) (w:World) (h1:Sh x) (h2:Sh y) (r0:0≤r) (r1:r≤67108864) :
  Calls Tryz.prog 109 #[.agg #[.int .i64 x,.int .i64 y,.int .i64 r]] w fun e w'=>e = .returned (.agg #[.int .i64 (max 0 (rt (x*x+y*y)-r)),.int .i64 (rtu (x*x+y*y)+r)])∧Below w.heap.size w w':=by
 have q:=h1.sq h2
 have u1:=rtu_bd q.1 (by omega)
 have t0:=rt_nonneg (x*x+y*y)
 have t1:=rt_lt31 q.1 (by omega)
 have hm:(0<rt (x*x+y*y)-r∧max 0 (rt (x*x+y*y)-r)=rt (x*x+y*y)-r)∨(rt (x*x+y*y)-r≤0∧max 0 (rt (x*x+y*y)-r)=0):=by omega
 rcases hm with⟨h,hm⟩|⟨h,hm⟩
 all_goals
  rw[hm]
  clear hm
  go_enter Tryz.func109,Tryz.ntmps109
  go_wp2_with fail
  refine calm 14 (by kernel_rfl) (by kernel_rfl) fun hG => ?_
  have A5:=hG (w.heap.size) lto
  have A2:=hG (w.heap.size+1) lto
  clear hG
  simp only[List.take_succ_cons,List.take_zero,List.drop_succ_cons,List.drop_zero]
  repeat (go_big_quiet_step (first|(go_at_call 163;with_reducible exact calm_call (fun w=>down_any x y w h1 h2))|(go_at_call 171;with_reducible exact calm_call (fun w=>up_any x y w h1 h2))))
  refine wpQuiet_nil ?_
  intro w2 A0
  clear A5 A2
  have A4:=bl5 A0 (w.heap.size)
  have A1:=bl5 A0 (w.heap.size+1)
  go_wp2
  refine bodyPost_ret (by simp[results,Tryz.results109,go_sem, *];first|done|rfl) rfl ?_
  exact⟨rfl,blw⟩
set_option maxHeartbeats 1000000 in
theorem SizeOf_yes (x y r:Int) (w:World) (h:Right x y r) :
  Calls Tryz.prog 130 #[.agg #[.complex .f64 (fl x) (fl y),.int .i64 r]] w fun e w'=>e = .returned (.tuple #[.agg #[.int .i64 (max 0 (rt (x*x+y*y)-r)),.int .i64 (rtu (x*x+y*y)+r)],.int .i64 0])∧Below w.heap.size w w':=by
 obtain⟨t,ht⟩:∃t,max 0 (rt (x*x+y*y)-r)=t:=⟨_,rfl⟩
 have c:=fun w=>sizes_any x y r w h.sh.1 h.sh.2 h.2.1 h.2.2
 rw[ht]at c ⊢
 have C:=Lib.hid c
 clear ht c
 go_enter Tryz.func130,Tryz.ntmps130
 go_wp2_with fail
 refine(read_yes x y r _ h.1 h.2.1 h.2.2).mono ?_
 rintro e w1 ⟨rfl,hb1⟩
 have A6:=bl5 hb1 (w.heap.size)
 have A3:=bl5 hb1 (w.heap.size+1)
 go_wp2_with fail
 refine(C.out _).mono ?_
 rintro e w2 ⟨rfl,hb2⟩
 have A4:=bl5 hb2 (w.heap.size)
 have A1:=bl5 hb2 (w.heap.size+1)
 have A8:=bl5 hb2 (w1.heap.size)
 go_wp2
 refine bodyPost_ret (by simp[results,Tryz.results130,go_sem, *];first|done|rfl) rfl ?_
 exact⟨rfl,blw⟩
end Go.Proofs.YticobgianbecpaaGreatDoor
namespace Go.Proofs.YticobgianbecpaaGreatDoor
open Go.RowKit
set_option maxHeartbeats 1000000 in
theorem OfRange_yes (lo hi:Int) (w:World) (h1 : -67108864≤lo) (h2:lo≤hi) (h3:hi≤67108864) :
  Calls Tryz.prog 160 #[.agg #[.int .i64 lo,.int .i64 hi]] w fun e w'=>e = .returned (.tuple #[.agg #[.complex .f64 (fl ((lo+hi)/2)) (fl 0),.int .i64 (hi-(lo+hi)/2)],.int .i64 0])∧Below w.heap.size w w':=by
 have a1:(decide ((-67108864:Int)≤lo)&&decide (lo≤67108864))=true:=by simp;omega
 have a2:(decide ((-67108864:Int)≤hi)&&decide (hi≤67108864))=true:=by simp;omega
 have hf:Fits ((lo+hi)/2) 0:=by unfold Fits;omega
 have hr:0≤hi-(lo+hi)/2∧hi-(lo+hi)/2≤67108864:=by
  omega
 go_enter Tryz.func160,Tryz.ntmps160
 go_wp2_with (first
  | (go_at_call 164;(with_reducible refine(small_any _ _ _ (by omega) (by omega)).mono ?_);rintro e w' ⟨rfl,rfl⟩;(first|rw[a1]|rw[a2]))
  | (go_at_call 110;(with_reducible refine(floor_any _ _ _ (by omega) (by omega) (by omega) (by omega)).mono ?_);rintro e w' ⟨rfl,rfl⟩)
  | (go_at_call 217;(with_reducible refine(ball_yes _ _ _ _ hf hr.1 hr.2).mono ?_);rintro e w3 ⟨rfl,hb3⟩;have A9:=bl5 hb3 (w.heap.size);have A7:=bl5 hb3 (w.heap.size+1)))
 refine bodyPost_ret (by simp[results,Tryz.results160,go_sem, *];first|done|rfl) rfl ?_
 exact⟨rfl,blw⟩
set_option maxHeartbeats 1000000 in
theorem OfRange_bad (lo hi:Int) (w:World) (h:¬(-67108864≤lo∧lo≤67108864 ∧ -67108864≤hi∧hi≤67108864)) :
  Calls Tryz.prog 160 #[.agg #[.int .i64 lo,.int .i64 hi]] w fun e w'=>e = .returned (.tuple #[.agg #[.complex .f64 0 0,.int .i64 0],.int .i64 2])∧Below w.heap.size w w':=by
 by_cases c1 : -67108864≤lo∧lo≤67108864
 ·have a1:(decide ((-67108864:Int)≤lo)&&decide (lo≤67108864))=true:=by simp;omega
  have a2:(decide ((-67108864:Int)≤hi)&&decide (hi≤67108864))=false:=by rw[Bool.eq_false_iff];simp;omega
  clear c1 h
  go_enter Tryz.func160,Tryz.ntmps160
  go_wp2_with (first
   | (go_at_call 164;(with_reducible refine(small_any _ _ _ (by omega) (by omega)).mono ?_);rintro e w' ⟨rfl,rfl⟩;(first|rw[a1]|rw[a2])))
  refine bodyPost_ret (by simp[results,Tryz.results160,go_sem, *];first|done|rfl) rfl ?_
  exact⟨rfl,blw⟩
 ·have a1:(decide ((-67108864:Int)≤lo)&&decide (lo≤67108864))=false:=by rw[Bool.eq_false_iff];simp;omega
  clear c1 h
  go_enter Tryz.func160,Tryz.ntmps160
  go_wp2_with (first
   | (go_at_call 164;(with_reducible refine(small_any _ _ _ (by omega) (by omega)).mono ?_);rintro e w' ⟨rfl,rfl⟩;rw[a1]))
  refine bodyPost_ret (by simp[results,Tryz.results160,go_sem, *];first|done|rfl) rfl ?_
  exact⟨rfl,blw⟩
set_option maxHeartbeats 1000000 in
theorem OfRange_order (lo hi:Int) (w:World) (h1:lo≤67108864) (h2:hi<lo) (h3 : -67108864≤hi) :
  Calls Tryz.prog 160 #[.agg #[.int .i64 lo,.int .i64 hi]] w fun e w'=>e = .returned (.tuple #[.agg #[.complex .f64 0 0,.int .i64 0],.int .i64 10])∧Below w.heap.size w w':=by
 have a1:(decide ((-67108864:Int)≤lo)&&decide (lo≤67108864))=true:=by simp;omega
 have a2:(decide ((-67108864:Int)≤hi)&&decide (hi≤67108864))=true:=by simp;omega
 go_enter Tryz.func160,Tryz.ntmps160
 go_wp2_with (first
  | (go_at_call 164;(with_reducible refine(small_any _ _ _ (by omega) (by omega)).mono ?_);rintro e w' ⟨rfl,rfl⟩;(first|rw[a1]|rw[a2])))
 refine bodyPost_ret (by simp[results,Tryz.results160,go_sem, *];first|done|rfl) rfl ?_
 exact⟨rfl,blw⟩
def ofRangeM (lo hi:Int):Res :=
 if ¬(-67108864≤lo∧lo≤67108864 ∧ -67108864≤hi∧hi≤67108864)then .bad 2 else if hi<lo then .bad 10 else .good ((lo+hi)/2) 0 (hi-(lo+hi)/2)
theorem OfRange_any (lo hi:Int) (w:World) :
  Calls Tryz.prog 160 #[.agg #[.int .i64 lo,.int .i64 hi]] w fun e w'=>e = .returned (out (ofRangeM lo hi))∧Below w.heap.size w w':=by
 unfold ofRangeM
 by_cases h : -67108864≤lo∧lo≤67108864 ∧ -67108864≤hi∧hi≤67108864
 ·rw[if_neg (by simpa using h)]
  by_cases h2:hi<lo
  ·rw[if_pos h2];exact OfRange_order lo hi w h.2.1 h2 h.2.2.1
  ·rw[if_neg h2];exact OfRange_yes lo hi w h.1 (by omega) h.2.2.2
 ·rw[if_pos h];exact OfRange_bad lo hi w h
set_option maxHeartbeats 1000000 in
theorem RealRoot_pos (lo hi:Int) (w:World) (h1:0≤lo) (h2:lo≤hi) (h3:hi≤67108864) :
  Calls Tryz.prog 107 #[.agg #[.int .i64 lo,.int .i64 hi]] w fun e w'=>e = .returned (.tuple #[.agg #[.complex .f64 (fl ((rt (lo*1048576)+rtu (hi*1048576))/2)) (fl 0),.int .i64 (rtu (hi*1048576)-(rt (lo*1048576)+rtu (hi*1048576))/2)],.int .i64 0])∧Below w.heap.size w w':=by
 have t0:=rt_nonneg (lo*1048576)
 have t1:rt (lo*1048576)≤8388608:=rt_le (by omega) (by omega) (by omega) (by omega)
 have t2:rt (hi*1048576)≤8388608:=rt_le (by omega) (by omega) (by omega) (by omega)
 have t3:=rtu_bounds (n:=hi*1048576)
 have t4:rt (lo*1048576)≤rt (hi*1048576):=by
  have a:=rt_spec (n:=lo*1048576) (by omega) (by omega)
  have b:=rt_spec (n:=hi*1048576) (by omega) (by omega)
  have c:=rt_nonneg (hi*1048576)
  have:rt (lo*1048576)<rt (hi*1048576)+1:=lt_of_sq (by omega) (by omega)
  omega
 go_enter Tryz.func107,Tryz.ntmps107
 go_wp2_with fail
 refine(OfRange_yes lo hi _ (by omega) h2 h3).mono ?_
 rintro e w1 ⟨rfl,hb1⟩
 have A6:=bl5 hb1 (w.heap.size)
 have A3:=bl5 hb1 (w.heap.size+1)
 go_wp2_with fail
 refine calm 12 (by kernel_rfl) (by kernel_rfl) fun hG => ?_
 have A5:=hG (w.heap.size) lto
 have A2:=hG (w.heap.size+1) lto
 clear hG
 simp only[List.take_succ_cons,List.take_zero,List.drop_succ_cons,List.drop_zero]
 repeat (go_big_quiet_step (first|(go_at_call 165;with_reducible exact calm_same (fun w=>root_any _ w (by omega) (by omega)))|(go_at_call 168;with_reducible exact calm_same (fun w=>rootUp_any _ w (by omega) (by omega)))|(go_at_call 160;with_reducible exact calm_call (fun w=>OfRange_yes _ _ w (by omega) (by omega) (by omega)))))
 refine wpQuiet_nil ?_
 intro w2 A0
 clear A5 A2
 have A4:=bl5 A0 (w.heap.size)
 have A1:=bl5 A0 (w.heap.size+1)
 go_wp2
 refine bodyPost_ret (by simp[results,Tryz.results107,go_sem, *];first|done|rfl) rfl ?_
 exact⟨rfl,blw⟩
end Go.Proofs.YticobgianbecpaaGreatDoor
namespace Go.Proofs.YticobgianbecpaaGreatDoor
open Go.RowKit
theorem rt_eighth:rt 2251799813685248=47453132:=by decide +kernel
end Go.Proofs.YticobgianbecpaaGreatDoor
namespace Go.Proofs.YticobgianbecpaaGreatDoor
open Go.RowKit
set_option maxHeartbeats 1000000 in
theorem checkParts_ok (lo hi least:Int) (w:World) (h1:least≤lo) (h2:lo≤hi) (h3:hi≤1099511627776) :
  Calls Tryz.prog 185 #[.agg #[.int .i64 lo,.int .i64 hi],.int .i64 least] w fun e w'=>e = .returned (.int .i64 0)∧Below w.heap.size w w':=by
 have a1:(decide (least≤lo)&&decide (lo≤1099511627776))=true:=by simp;omega
 by_cases hl:least<0
 all_goals
  go_enter Tryz.func185,Tryz.ntmps185
  go_wp2_with (go_at_call 170;(with_reducible refine(within_any _ _ _ _).mono ?_);rintro e w' ⟨rfl,rfl⟩;rw[a1])
  go_ret
  exact⟨rfl,blw⟩
set_option maxHeartbeats 1000000 in
theorem Mul64_any (x y:Nat) (hx:x<18446744073709551616) (hy:y<18446744073709551616) (w:World) :
  Calls Tryz.prog 219 #[.int .u64 x,.int .u64 y] w fun e w'=>e = .returned (.tuple #[.int .u64 ((x*y/18446744073709551616:Nat):Int),.int .u64 ((x*y%18446744073709551616:Nat):Int)])∧w'=w:=by
 obtain⟨bd,bt,bw,hhi⟩:=Lib.mul64_hi x y hx hy
 have ba:=Lib.half_mul_le (a:=x/4294967296) (b:=y/4294967296) (by omega) (by omega)
 have bb:=Lib.half_mul_le (a:=x/4294967296) (b:=y%4294967296) (by omega) (by omega)
 have bc:=Lib.half_mul_le (a:=x%4294967296) (b:=y/4294967296) (by omega) (by omega)
 have ba':x/4294967296*(y/4294967296)<18446744073709551616:=by omega
 have bb':x/4294967296*(y%4294967296)<18446744073709551616:=by omega
 have bc':x%4294967296*(y/4294967296)<18446744073709551616:=by omega
 have bh1:x/4294967296*(y/4294967296)+(x/4294967296*(y%4294967296)+x%4294967296*(y%4294967296)/4294967296)/4294967296<18446744073709551616:=by omega
 have bh:x/4294967296*(y/4294967296)+(x/4294967296*(y%4294967296)+x%4294967296*(y%4294967296)/4294967296)/4294967296+((x/4294967296*(y%4294967296)+x%4294967296*(y%4294967296)/4294967296)%4294967296+x%4294967296*(y/4294967296))/4294967296<18446744073709551616:=by
  rw[hhi]
  exact Nat.div_lt_of_lt_mul (Nat.mul_lt_mul'' hx hy)
 go_enter Tryz.func219,Tryz.ntmps219
 go_wp2
 simp only[Mul64.maskN x hx,Mul64.maskN y hy,Mul64.divN,Mul64.mulN,Mul64.addN,Mul64.wrapN _ bd,Mul64.wrapN _ bb',Mul64.wrapN _ bt,Mul64.maskN _ bt,Mul64.wrapN _ bc',Mul64.wrapN _ bw,Mul64.wrapN _ ba',Mul64.wrapN _ bh1,Mul64.wrapN _ bh,Mul64.wrapM (x*y)]
 rw[hhi]
 go_ret2
 exact⟨rfl,rfl⟩
set_option maxHeartbeats 1000000 in
theorem Div64_low (n y:Nat) (hn:n<18446744073709551616) (h0:0<y) (hy:y<18446744073709551616) (w:World) :
  Calls Tryz.prog 220 #[.int .u64 0,.int .u64 n,.int .u64 y] w fun e w'=>e = .returned (.tuple #[.int .u64 ((n/y:Nat):Int),.int .u64 ((n%y:Nat):Int)])∧∃k,w'=w.drewN k:=by
 have n0:(0:Int)≤n:=Int.natCast_nonneg _
 have y1:(1:Int)≤y:=by omega
 have q0:(0:Int)≤(n:Int)/y:=Int.ediv_nonneg n0 (by omega)
 have q1:(n:Int)/y≤18446744073709551615:=ediv_hi y1 (by omega) (by omega)
 go_enter Tryz.func220,Tryz.ntmps220
 go_wp2_with fail
 go_quiet (fail)
 go_wp2
 go_ret2
 exact⟨by rw[Int.natCast_ediv,Int.natCast_emod];rfl,_,rfl⟩
end Go.Proofs.YticobgianbecpaaGreatDoor
namespace Go.Proofs.YticobgianbecpaaGreatDoor
open Go.RowKit
theorem SizeOf_ex (w:World) :
  Calls Tryz.prog 130 #[.agg #[.complex .f64 (fl 3) (fl 4),.int .i64 1]] w fun e w'=>e = .returned (.tuple #[.agg #[.int .i64 4,.int .i64 6],.int .i64 0])∧Below w.heap.size w w':=by
 have h:=SizeOf_yes 3 4 1 w (by unfold Right Fits;omega)
 have e1:max 0 (rt (3*3+4*4)-1)=4:=by decide +kernel
 have e2:rtu (3*3+4*4)+1=6:=by decide +kernel
 rw[e1,e2]at h
 exact h
end Go.Proofs.YticobgianbecpaaGreatDoor
