/- Joined: Ops Whole Disc Unary Binary Pub. -/
import Derived.Test.YticobgianbecpaaGreatDoorKNum
import Derived.Test.YticobgianbecpaaGreatDoorKCalm
import Derived.Shelf.Abstract
namespace Go.Proofs.YticobgianbecpaaGreatDoor
open Go.RowKit
theorem rtu_bd {n:Int} (h0:0≤n) (h1:n≤1152921504606846976):0≤rtu n∧rtu n≤1073741825:=by
 have a:=rt_nonneg n
 have b:=rt_le (b:=1073741824) h0 (by omega) (by omega) (by omega)
 have c:=rtu_bounds (n:=n)
 omega
theorem mul_bd {a b A B:Int} (a0:0≤a) (a1:a≤A) (b0:0≤b) (b1:b≤B):0≤a*b∧a*b≤A*B :=
 ⟨Int.mul_nonneg a0 b0,Int.mul_le_mul a1 b1 b0 (by omega)⟩
def rnd (n:Int):Int:=(2*n+1048576)/2097152
def inx (n:Int):Bool:=n%1048576 != 0
set_option maxHeartbeats 1000000 in
theorem times1_any (a b r c d s:Int) (w:World) (h1:Sh a) (h2:Sh b) (h3:Sh c) (h4:Sh d) (r0:0≤r) (r1:r≤67108864) (s0:0≤s) (s1:s≤67108864) :
  Calls Tryz.prog 189 #[.agg #[.int .i64 a,.int .i64 b,.int .i64 r],.agg #[.int .i64 c,.int .i64 d,.int .i64 s]] w fun e w' =>
   e = .returned (.tuple #[.agg #[.int .i64 (rnd (a*c-b*d)),.int .i64 (rnd (a*d+b*c)),.int .i64 (-(-(rtu (a*a+b*b)*s+rtu (c*c+d*d)*r+r*s)/1048576)+b1 (inx (a*c-b*d)||inx (a*d+b*c)))],.int .i64 0])∧Below w.heap.size w w':=by
 have q1:=h1.sm.mul h3.sm
 have q2:=h2.sm.mul h4.sm
 have q3:=h1.sm.mul h4.sm
 have q4:=h2.sm.mul h3.sm
 have u1:=rtu_bd (h1.sq h2).1 (by have:=(h1.sq h2).2;omega)
 have u2:=rtu_bd (h3.sq h4).1 (by have:=(h3.sq h4).2;omega)
 have m1:=mul_bd u1.1 u1.2 s0 s1
 have m2:=mul_bd u2.1 u2.2 r0 r1
 have m3:=mul_bd r0 r1 s0 s1
 have o1:=b1_bd ((a*d+b*c)%1048576 != 0)
 have o2:=b1_bd true
 obtain⟨x,hx⟩:∃x,x=inx (a*c-b*d):=⟨_,rfl⟩
 have Hx:=Lib.hid hx
 rw[← hx]
 clear hx
 cases x
 all_goals
  go_enter Tryz.func189,Tryz.ntmps189
  go_wp2_with (go_at_call 190;refine(times_any _ _ _ _ _ h1.sm h2.sm h3.sm h4.sm).mono ?_;rintro e w1 ⟨rfl,hb1⟩;have A4:=bl5 hb1 (w.heap.size);have A0:=bl5 hb1 (w.heap.size+1);have A6:=bl5 hb1 (w.heap.size+1+1))
  refine(rounded_any _ _ _ (by omega) (by omega) (by omega) (by omega)).mono ?_
  rintro e w' ⟨rfl,k,rfl⟩
  rw[show((a*c-b*d)%1048576 != 0)=_ from Hx.out.symm]
  go_wp2_with fail
  refine(rounded_any _ _ _ (by omega) (by omega) (by omega) (by omega)).mono ?_
  rintro e w' ⟨rfl,k,rfl⟩
  go_wp2_with fail
  refine calm 30 (by kernel_rfl) (by kernel_rfl) fun hG => ?_
  have Ag:=hG (w.heap.size) lto
  have Ad:=hG (w.heap.size+1) lto
  have Ah:=hG (w.heap.size+1+1) lto
  clear hG
  simp only[List.take_succ_cons,List.take_zero,List.drop_succ_cons,List.drop_zero]
  repeat (go_big_quiet_step (first|(go_at_call 171;first|with_reducible exact calm_call (fun w=>up_any a b w h1 h2)|with_reducible exact calm_call (fun w=>up_any c d w h3 h4))|(go_at_call 111;with_reducible exact calm_same (fun w=>ceil_any _ _ w (by omega) (by omega) (by omega) (by omega)))|(go_at_call 192;with_reducible exact calm_same (fun w=>one_any _ w))))
  refine wpQuiet_nil ?_
  intro w2 Ac
  clear Ag Ad Ah
  have A7:=bl5 Ac (w.heap.size)
  have A5:=bl5 Ac (w.heap.size+1)
  have Aa:=bl5 Ac (w.heap.size+1+1)
  go_wp2
  refine bodyPost_ret (by simp[results,Tryz.results189,go_sem, *];first|done|rfl) rfl ?_
  exact⟨rfl,blw⟩
end Go.Proofs.YticobgianbecpaaGreatDoor
namespace Go.Proofs.YticobgianbecpaaGreatDoor
open Go.RowKit
theorem run_trunc (n:Int) (w:World) (h1 : -9007199254740992≤n) (h2:n≤9007199254740992) :
  (callFunc 267 #[.float .f64 (fl n)]).run Tryz.prog w = .ok (.value (.float .f64 (fl n))) w:=by
 rw[run_callFunc_extern (P:=Tryz.prog) (f:=267) (fn:=Tryz.f267) (e:=Extern.MathFloor.toIntegral "math.archTrunc" .zero) (by kernel_rfl) (by kernel_rfl) (by kernel_rfl) (by kernel_rfl) (by kernel_rfl)]
 have e:Extern.MathFloor.toIntegral "math.archTrunc" .zero #[.float .f64 (fl n)]=pure (.float .f64 (fl n)):=by
  have ht:=fl_trunc n h1 h2
  obtain⟨s,m,p,hr,_⟩:=whole_fl n h1 h2
  have hd:FloatKind.f64.decode (fl n) = .number s m p:=hr
  rw[hd]at ht
  show(match FloatKind.f64.decode (fl n)with | .nan s t=>_|d=>pure (Value.float .f64 (FloatKind.f64.encode (d.integral .zero))))=_
  rw[hd]
  show pure (Value.float .f64 (FloatKind.f64.encode ((Ieee.Datum.number s m p).integral .zero)))=_
  rw[ht]
 rw[e];rfl
theorem run_bits (x:Nat) (w:World):(callFunc 149 #[.float .f64 x]).run Tryz.prog w = .ok (.value (.int .u64 x)) w:=by
 rw[run_callFunc_extern (P:=Tryz.prog) (f:=149) (fn:=Tryz.f149) (e:=Extern.MathFloatBits.float64bits) (by kernel_rfl) (by kernel_rfl) (by kernel_rfl) (by kernel_rfl) (by kernel_rfl)]
 rfl
theorem run_frombits (x:Int) (w:World):(callFunc 250 #[.int .u64 x]).run Tryz.prog w = .ok (.value (.float .f64 x.toNat)) w:=by
 rw[run_callFunc_extern (P:=Tryz.prog) (f:=250) (fn:=Tryz.f250) (e:=Extern.MathFloatBits.float64frombits) (by kernel_rfl) (by kernel_rfl) (by kernel_rfl) (by kernel_rfl) (by kernel_rfl)]
 rfl
theorem trunc_any (n:Int) (w:World) (h1 : -9007199254740992≤n) (h2:n≤9007199254740992) :
  Calls Tryz.prog 248 #[.float .f64 (fl n)] w fun e w'=>e = .returned (.float .f64 (fl n))∧w'=w:=by
 have hx:=fun w=>run_trunc n w h1 h2
 go_enter Tryz.func248,Tryz.ntmps248
 go_wp2
 go_ret
 exact⟨rfl,rfl⟩
theorem abs_nat (x:Nat) (h:x<18446744073709551616):(bits .andNot .u64 (x:Int) 9223372036854775808).toNat=x%9223372036854775808:=by
 have:=u64_andNot (x:Int) 9223372036854775808 (by omega) (by omega) (by omega) (by omega)
 rw[this]
 simp only[Int.toNat_natCast]
 rw[show(18446744073709551615-(9223372036854775808:Int).toNat)=2^63-1 from rfl,Nat.and_two_pow_sub_one_eq_mod]
set_option maxHeartbeats 400000 in
theorem abs_any (n:Int) (w:World) :
  Calls Tryz.prog 222 #[.float .f64 (fl n)] w fun e w'=>e = .returned (.float .f64 (fl (n.natAbs:Nat)))∧w'=w:=by
 have hx:=fun w=>run_bits (fl n) w
 have hy:=fun w=>run_frombits (bits .andNot .u64 (fl n:Int) 9223372036854775808) w
 go_enter Tryz.func222,Tryz.ntmps222
 go_wp2
 go_ret
 rw[abs_nat _ (fl_lt n),fl_abs]
 exact⟨rfl,rfl⟩
theorem tw_two (k:Nat):tw (k+1)=2*tw k:=by rw[Nat.add_comm,tw_add];rfl
theorem cmp_lt {a b:Int} (h:a<b):compare a b = .lt:=by simp only[compare,compareOfLessAndEq];rw[if_pos h]
theorem ord_max (n:Nat) (h:n≤9007199254740992):FloatKind.f64.format.order (fl n) 9218868437227405311=some .lt:=by
 have hr:Ieee.double.read 9218868437227405311 = .number false 9007199254740991 (971:Nat):=by decide
 rw[ord_whole (by omega) (by omega) (whole_of_num hr)]
 have h1:=tw_pos 970
 have h2:tw 971=2*tw 970:=tw_two 970
 rw[h2]
 generalize tw 970=T at *
 exact congrArg some (cmp_lt (by rw[if_neg (by decide),Int.natCast_mul];omega))
set_option maxHeartbeats 400000 in
theorem isInf_any (n:Int) (w:World) (h1 : -9007199254740992≤n) (h2:n≤9007199254740992) :
  Calls Tryz.prog 249 #[.float .f64 (fl n),.int .i64 0] w fun e w'=>e = .returned (.bool false)∧w'=w:=by
 have ho:=ord_max n.natAbs (by omega)
 go_enter Tryz.func249,Tryz.ntmps249
 go_wp2_with (go_at_call 222;refine(abs_any _ _).mono ?_;rintro e w' ⟨rfl,rfl⟩)
 go_ret
 exact⟨rfl,rfl⟩
set_option maxHeartbeats 400000 in
theorem isWhole_any (n:Int) (w:World) (h1 : -9007199254740992≤n) (h2:n≤9007199254740992) :
  Calls Tryz.prog 221 #[.float .f64 (fl n)] w fun e w'=>e = .returned (.bool true)∧w'=w:=by
 have ho:=ord_eq h1 h2
 go_enter Tryz.func221,Tryz.ntmps221
 go_wp2_with (first
  | (go_at_call 248;refine(trunc_any _ _ h1 h2).mono ?_;rintro e w' ⟨rfl,rfl⟩)
  | (go_at_call 249;refine(isInf_any _ _ h1 h2).mono ?_;rintro e w' ⟨rfl,rfl⟩))
 go_ret
 exact⟨rfl,rfl⟩
set_option maxHeartbeats 400000 in
theorem centerOf_any (x y:Int) (w:World) (h1 : -9007199254740992≤x) (h2:x≤9007199254740992) (h3 : -9007199254740992≤y) (h4:y≤9007199254740992) :
  Calls Tryz.prog 223 #[.complex .f64 (fl x) (fl y)] w fun e w'=>e = .returned (.agg #[.int .i64 x,.int .i64 y])∧Below w.heap.size w w':=by
 have c1:=fun(w:World)=>run_convert_float_int (P:=Tryz.prog) w 199 3 .f64 .i64 _ x (by kernel_rfl) (by kernel_rfl) (int_fl x h1 h2)
 have c2:=fun(w:World)=>run_convert_float_int (P:=Tryz.prog) w 199 3 .f64 .i64 _ y (by kernel_rfl) (by kernel_rfl) (int_fl y h3 h4)
 go_enter Tryz.func223,Tryz.ntmps223
 go_wp2
 go_returns
 exact⟨rfl,blw⟩
theorem most_eq:fl 67108864=4724276009111650304:=by decide
def Fits (x y:Int):Prop := -67108864≤x∧x≤67108864 ∧ -67108864≤y∧y≤67108864
theorem ord_in (n:Int) (h1 : -67108864≤n) (h2:n≤67108864):(FloatKind.f64.format.order (fl (n.natAbs:Nat)) 4724276009111650304==some .gt)=false:=by
 rw[← most_eq]
 by_cases h:(n.natAbs:Int)=67108864
 ·rw[h,ord_eq (by omega) (by omega)];rfl
 ·rw[ord_lt (by omega) (by omega) (by omega) (by omega) (by omega)];rfl
theorem ord_out (n:Int) (h1 : -9007199254740992≤n) (h2:n≤9007199254740992) (h:n < -67108864∨67108864<n):(FloatKind.f64.format.order (fl (n.natAbs:Nat)) 4724276009111650304==some .gt)=true:=by
 rw[← most_eq,ord_gt (by omega) (by omega) (by omega) (by omega) (by omega)];rfl
set_option maxHeartbeats 1000000 in
theorem whole_yes (x y:Int) (w:World) (h:Fits x y) :
  Calls Tryz.prog 169 #[.complex .f64 (fl x) (fl y),.float .f64 4724276009111650304] w fun e w'=>e = .returned (.tuple #[.agg #[.int .i64 x,.int .i64 y],.int .i64 0])∧Below w.heap.size w w':=by
 obtain⟨h1,h2,h3,h4⟩:=h
 have ox:=ord_in x h1 h2
 have oy:=ord_in y h3 h4
 have i0:∀w,(Instr.index 242 (.agg #[.float .f64 (fl x),.float .f64 (fl y)]) (.int .i64 0)).run Tryz.prog w = .ok (.float .f64 (fl x)) w:=fun _=>by kernel_rfl
 have i1:∀w,(Instr.index 242 (.agg #[.float .f64 (fl x),.float .f64 (fl y)]) (.int .i64 1)).run Tryz.prog w = .ok (.float .f64 (fl y)) w:=fun _=>by kernel_rfl
 go_enter Tryz.func169,Tryz.ntmps169
 go_wp2_with fail
 refine wp_loop_rounds 3 ?_
 iterate 3 (rw[rounds_succ];go_wp2_with (first
  | (go_at_call 221;first|(with_reducible refine(isWhole_any x _ (by omega) (by omega)).mono ?_;rintro e w' ⟨rfl,rfl⟩)|(with_reducible refine(isWhole_any y _ (by omega) (by omega)).mono ?_;rintro e w' ⟨rfl,rfl⟩))))
 refine wp_loop_rounds 3 ?_
 iterate 3 (rw[rounds_succ];go_wp2_with (first
  | (go_at_call 222;first|(with_reducible refine(abs_any x _).mono ?_;rintro e w' ⟨rfl,rfl⟩)|(with_reducible refine(abs_any y _).mono ?_;rintro e w' ⟨rfl,rfl⟩))
  | (go_at_call 223;(with_reducible refine(centerOf_any x y _ (by omega) (by omega) (by omega) (by omega)).mono ?_);rintro e w1 ⟨rfl,hb1⟩;have A4:=bl5 hb1 (w.heap.size))))
 refine bodyPost_ret (by simp[results,Tryz.results169,go_sem, *];first|done|rfl) rfl ?_
 exact⟨rfl,blw⟩
def Flo (x:Int):Prop := -9007199254740992≤x∧x≤9007199254740992
set_option maxHeartbeats 1000000 in
theorem whole_no1 (x y:Int) (w:World) (f1:Flo x) (f2:Flo y) (h:x < -67108864∨67108864<x) :
  Calls Tryz.prog 169 #[.complex .f64 (fl x) (fl y),.float .f64 4724276009111650304] w fun e w'=>e = .returned (.tuple #[.agg #[.int .i64 0,.int .i64 0],.int .i64 2])∧Below w.heap.size w w':=by
 obtain⟨h1,h2⟩:=f1
 obtain⟨h3,h4⟩:=f2
 have ox:=ord_out x h1 h2 h
 clear h
 have i0:∀w,(Instr.index 242 (.agg #[.float .f64 (fl x),.float .f64 (fl y)]) (.int .i64 0)).run Tryz.prog w = .ok (.float .f64 (fl x)) w:=fun _=>by kernel_rfl
 have i1:∀w,(Instr.index 242 (.agg #[.float .f64 (fl x),.float .f64 (fl y)]) (.int .i64 1)).run Tryz.prog w = .ok (.float .f64 (fl y)) w:=fun _=>by kernel_rfl
 go_enter Tryz.func169,Tryz.ntmps169
 go_wp2_with fail
 refine wp_loop_rounds 3 ?_
 iterate 3 (rw[rounds_succ];go_wp2_with (first
  | (go_at_call 221;first|(with_reducible refine(isWhole_any x _ (by omega) (by omega)).mono ?_;rintro e w' ⟨rfl,rfl⟩)|(with_reducible refine(isWhole_any y _ (by omega) (by omega)).mono ?_;rintro e w' ⟨rfl,rfl⟩))))
 refine wp_loop_rounds 3 ?_
 iterate 1 (rw[rounds_succ];go_wp2_with (first
  | (go_at_call 222;first|(with_reducible refine(abs_any x _).mono ?_;rintro e w' ⟨rfl,rfl⟩)|(with_reducible refine(abs_any y _).mono ?_;rintro e w' ⟨rfl,rfl⟩))
  | (go_at_call 223;(with_reducible refine(centerOf_any x y _ (by omega) (by omega) (by omega) (by omega)).mono ?_);rintro e w1 ⟨rfl,hb1⟩;have A4:=bl5 hb1 (w.heap.size))))
 refine bodyPost_ret (by simp[results,Tryz.results169,go_sem, *];first|done|rfl) rfl ?_
 exact⟨rfl,blw⟩
set_option maxHeartbeats 1000000 in
theorem whole_no2 (x y:Int) (w:World) (f2:Flo y) (hx : -67108864≤x∧x≤67108864) (h:y < -67108864∨67108864<y) :
  Calls Tryz.prog 169 #[.complex .f64 (fl x) (fl y),.float .f64 4724276009111650304] w fun e w'=>e = .returned (.tuple #[.agg #[.int .i64 0,.int .i64 0],.int .i64 2])∧Below w.heap.size w w':=by
 obtain⟨h3,h4⟩:=f2
 have ox:=ord_in x hx.1 hx.2
 have oy:=ord_out y h3 h4 h
 clear h
 have i0:∀w,(Instr.index 242 (.agg #[.float .f64 (fl x),.float .f64 (fl y)]) (.int .i64 0)).run Tryz.prog w = .ok (.float .f64 (fl x)) w:=fun _=>by kernel_rfl
 have i1:∀w,(Instr.index 242 (.agg #[.float .f64 (fl x),.float .f64 (fl y)]) (.int .i64 1)).run Tryz.prog w = .ok (.float .f64 (fl y)) w:=fun _=>by kernel_rfl
 go_enter Tryz.func169,Tryz.ntmps169
 go_wp2_with fail
 refine wp_loop_rounds 3 ?_
 iterate 3 (rw[rounds_succ];go_wp2_with (first
  | (go_at_call 221;first|(with_reducible refine(isWhole_any x _ (by omega) (by omega)).mono ?_;rintro e w' ⟨rfl,rfl⟩)|(with_reducible refine(isWhole_any y _ (by omega) (by omega)).mono ?_;rintro e w' ⟨rfl,rfl⟩))))
 refine wp_loop_rounds 3 ?_
 iterate 2 (rw[rounds_succ];go_wp2_with (first
  | (go_at_call 222;first|(with_reducible refine(abs_any x _).mono ?_;rintro e w' ⟨rfl,rfl⟩)|(with_reducible refine(abs_any y _).mono ?_;rintro e w' ⟨rfl,rfl⟩))
  | (go_at_call 223;(with_reducible refine(centerOf_any x y _ (by omega) (by omega) (by omega) (by omega)).mono ?_);rintro e w1 ⟨rfl,hb1⟩;have A4:=bl5 hb1 (w.heap.size))))
 refine bodyPost_ret (by simp[results,Tryz.results169,go_sem, *];first|done|rfl) rfl ?_
 exact⟨rfl,blw⟩
end Go.Proofs.YticobgianbecpaaGreatDoor
namespace Go.Proofs.YticobgianbecpaaGreatDoor
open Go.RowKit
set_option maxHeartbeats 1000000 in
theorem read_yes (x y r:Int) (w:World) (h:Fits x y) (r0:0≤r) (r1:r≤67108864) :
  Calls Tryz.prog 108 #[.agg #[.complex .f64 (fl x) (fl y),.int .i64 r]] w fun e w'=>e = .returned (.tuple #[.agg #[.int .i64 x,.int .i64 y,.int .i64 r],.int .i64 0])∧Below w.heap.size w w':=by
 have a1:(decide ((0:Int)≤r)&&decide (r≤67108864))=true:=by simp[r0,r1]
 go_enter Tryz.func108,Tryz.ntmps108
 go_wp2_with (first
  | (go_at_call 169;(with_reducible refine(whole_yes x y _ h).mono ?_);rintro e w1 ⟨rfl,hb1⟩;have A4:=bl5 hb1 (w.heap.size);have A0:=bl5 hb1 (w.heap.size+1))
  | (go_at_call 170;(with_reducible refine(within_any _ _ _ _).mono ?_);rintro e w' ⟨rfl,rfl⟩))
 refine bodyPost_ret (by simp[results,Tryz.results108,go_sem, *];first|done|rfl) rfl ?_
 exact⟨rfl,blw⟩
set_option maxHeartbeats 1000000 in
theorem read_no1 (x y r:Int) (w:World) (h:Fits x y) (hr:r<0∨67108864<r) :
  Calls Tryz.prog 108 #[.agg #[.complex .f64 (fl x) (fl y),.int .i64 r]] w fun e w'=>e = .returned (.tuple #[.agg #[.int .i64 x,.int .i64 y,.int .i64 r],.int .i64 2])∧Below w.heap.size w w':=by
 have a1:(decide ((0:Int)≤r)&&decide (r≤67108864))=false:=by rcases hr with hr|hr<;>simp<;>omega
 clear hr
 go_enter Tryz.func108,Tryz.ntmps108
 go_wp2_with (first
  | (go_at_call 169;(with_reducible refine(whole_yes x y _ h).mono ?_);rintro e w1 ⟨rfl,hb1⟩;have A4:=bl5 hb1 (w.heap.size);have A0:=bl5 hb1 (w.heap.size+1))
  | (go_at_call 170;(with_reducible refine(within_any _ _ _ _).mono ?_);rintro e w' ⟨rfl,rfl⟩;rw[a1]))
 refine bodyPost_ret (by simp[results,Tryz.results108,go_sem, *];first|done|rfl) rfl ?_
 exact⟨rfl,blw⟩
theorem whole_no (x y:Int) (w:World) (f1:Flo x) (f2:Flo y) (h:¬Fits x y) :
  Calls Tryz.prog 169 #[.complex .f64 (fl x) (fl y),.float .f64 4724276009111650304] w fun e w'=>e = .returned (.tuple #[.agg #[.int .i64 0,.int .i64 0],.int .i64 2])∧Below w.heap.size w w':=by
 unfold Fits at h
 by_cases h1:x < -67108864∨67108864<x
 ·exact whole_no1 x y w f1 f2 h1
 ·exact whole_no2 x y w f2 (by omega) (by omega)
set_option maxHeartbeats 1000000 in
theorem read_no2 (x y r:Int) (w:World) (f1:Flo x) (f2:Flo y) (h:¬Fits x y) :
  Calls Tryz.prog 108 #[.agg #[.complex .f64 (fl x) (fl y),.int .i64 r]] w fun e w'=>e = .returned (.tuple #[.agg #[.int .i64 0,.int .i64 0,.int .i64 r],.int .i64 2])∧Below w.heap.size w w':=by
 go_enter Tryz.func108,Tryz.ntmps108
 go_wp2_with (first
  | (go_at_call 169;(with_reducible refine(whole_no x y _ f1 f2 h).mono ?_);rintro e w1 ⟨rfl,hb1⟩;have A4:=bl5 hb1 (w.heap.size);have A0:=bl5 hb1 (w.heap.size+1)))
 refine bodyPost_ret (by simp[results,Tryz.results108,go_sem, *];first|done|rfl) rfl ?_
 exact⟨rfl,blw⟩
set_option maxHeartbeats 400000 in
theorem number_any (x y:Int) (w:World) :
  Calls Tryz.prog 245 #[.agg #[.int .i64 x,.int .i64 y]] w fun e w'=>e = .returned (.complex .f64 (fl x) (fl y))∧Below w.heap.size w w':=by
 go_enter Tryz.func245,Tryz.ntmps245
 go_wp2
 go_ret
 exact⟨rfl,blw⟩
set_option maxHeartbeats 1000000 in
theorem ball_yes (x y r:Int) (w:World) (h:Fits x y) (r0:0≤r) (r1:r≤67108864) :
  Calls Tryz.prog 217 #[.agg #[.int .i64 x,.int .i64 y,.int .i64 r]] w fun e w'=>e = .returned (.tuple #[.agg #[.complex .f64 (fl x) (fl y),.int .i64 r],.int .i64 0])∧Below w.heap.size w w':=by
 obtain⟨h1,h2,h3,h4⟩:=h
 have a1:(decide ((-67108864:Int)≤x)&&decide (x≤67108864))=true:=by simp[h1,h2]
 have a2:(decide ((-67108864:Int)≤y)&&decide (y≤67108864))=true:=by simp[h3,h4]
 have a3:(decide ((0:Int)≤r)&&decide (r≤67108864))=true:=by simp[r0,r1]
 go_enter Tryz.func217,Tryz.ntmps217
 go_wp2_with (first
  | (go_at_call 164;(with_reducible refine(small_any _ _ _ (by omega) (by omega)).mono ?_);rintro e w' ⟨rfl,rfl⟩;(first|rw[a1]|rw[a2]))
  | (go_at_call 170;(with_reducible refine(within_any _ _ _ _).mono ?_);rintro e w' ⟨rfl,rfl⟩;rw[a3]))
 refine calm 6 (by kernel_rfl) (by kernel_rfl) fun hG => ?_
 have Ag:=hG (w.heap.size) lto
 have Ad:=hG (w.heap.size+1) lto
 clear hG
 simp only[List.take_succ_cons,List.take_zero,List.drop_succ_cons,List.drop_zero]
 repeat (go_big_quiet_step (first|(go_at_call 245;with_reducible exact calm_call (fun w=>number_any _ _ w))))
 refine wpQuiet_nil ?_
 intro w2 Ac
 clear Ag Ad
 have A7:=bl5 Ac (w.heap.size)
 have A5:=bl5 Ac (w.heap.size+1)
 go_wp2
 refine bodyPost_ret (by simp[results,Tryz.results217,go_sem, *];first|done|rfl) rfl ?_
 exact⟨rfl,blw⟩
set_option maxHeartbeats 1000000 in
theorem ball_no (x y r:Int) (w:World) (h:¬(Fits x y∧0≤r∧r≤67108864)) :
  Calls Tryz.prog 217 #[.agg #[.int .i64 x,.int .i64 y,.int .i64 r]] w fun e w'=>e = .returned (.tuple #[.agg #[.complex .f64 0 0,.int .i64 0],.int .i64 8])∧Below w.heap.size w w':=by
 obtain⟨b1,a1⟩:∃b,(decide ((-67108864:Int)≤x)&&decide (x≤67108864))=b:=⟨_,rfl⟩
 obtain⟨b2,a2⟩:∃b,(decide ((-67108864:Int)≤y)&&decide (y≤67108864))=b:=⟨_,rfl⟩
 obtain⟨b3,a3⟩:∃b,(decide ((0:Int)≤r)&&decide (r≤67108864))=b:=⟨_,rfl⟩
 have hb:(b1&&b2&&b3)=false:=by
  rw[Bool.eq_false_iff]
  intro hh
  simp only[Bool.and_eq_true]at hh
  obtain⟨⟨rfl,rfl⟩,rfl⟩:=hh
  simp at a1 a2 a3
  exact h ⟨⟨a1.1,a1.2,a2.1,a2.2⟩,a3⟩
 clear h
 have A1:=Lib.hid a1
 have A2:=Lib.hid a2
 have A3:=Lib.hid a3
 clear a1 a2 a3
 cases b1<;>cases b2<;>cases b3<;>first|exact absurd hb (by decide)|skip
 all_goals
  clear hb
  go_enter Tryz.func217,Tryz.ntmps217
  go_wp2_with (first
   | (go_at_call 164;(with_reducible refine(small_any _ _ _ (by omega) (by omega)).mono ?_);rintro e w' ⟨rfl,rfl⟩;(first|rw[A1.out]|rw[A2.out]))
   | (go_at_call 170;(with_reducible refine(within_any _ _ _ _).mono ?_);rintro e w' ⟨rfl,rfl⟩;rw[A3.out]))
  refine bodyPost_ret (by simp[results,Tryz.results217,go_sem, *];first|done|rfl) rfl ?_
  exact⟨rfl,blw⟩
end Go.Proofs.YticobgianbecpaaGreatDoor
namespace Go.Proofs.YticobgianbecpaaGreatDoor
open Go.RowKit
def Does (k:Nat) (cap:Array Value) (x y r:Int) (w:World) (v:Value):Prop :=
 ∀w1,Below w.heap.size w w1→Calls Tryz.prog k (#[.agg #[.int .i64 x,.int .i64 y,.int .i64 r]]++cap) w1 fun e w'=>e = .returned v∧Below w1.heap.size w1 w'
theorem Does.go {k:Nat}{cap:Array Value}{x y r:Int}{w:World}{v:Value} (h:Does k cap x y r w v) (w1:World) (hb:Below w.heap.size w w1):Calls Tryz.prog k (#[.agg #[.int .i64 x,.int .i64 y,.int .i64 r]]++cap) w1 fun e w'=>e = .returned v∧Below w1.heap.size w1 w':=h w1 hb
set_option maxHeartbeats 1000000 in
theorem unary_yes (k:Nat) (cap:Array Value) (x y r a b c:Int) (w:World) (eg:∀args w,(callFunc k args).run Tryz.prog w = .ok (.enter k args) w)
  (h:Fits x y) (r0:0≤r) (r1:r≤67108864) (hd:Does k cap x y r w (.tuple #[.agg #[.int .i64 a,.int .i64 b,.int .i64 c],.int .i64 0])) (h2:Fits a b) (c0:0≤c) (c1:c≤67108864) :
  Calls Tryz.prog 161 #[.agg #[.complex .f64 (fl x) (fl y),.int .i64 r],.func (.func k) #[] cap] w fun e w'=>e = .returned (.tuple #[.agg #[.complex .f64 (fl a) (fl b),.int .i64 c],.int .i64 0])∧Below w.heap.size w w':=by
 go_enter Tryz.func161,Tryz.ntmps161
 go_wp2_with (go_at_call 108;(with_reducible refine(read_yes x y r _ h r0 r1).mono ?_);rintro e w1 ⟨rfl,hb1⟩;have A4:=bl5 hb1 (w.heap.size);have A0:=bl5 hb1 (w.heap.size+1))
 refine(hd _ blw).mono ?_
 rintro e w2 ⟨rfl,hb2⟩
 have A7:=bl5 hb2 (w.heap.size)
 have A5:=bl5 hb2 (w.heap.size+1)
 have A8:=bl5 hb2 (w1.heap.size)
 go_wp2_with (go_at_call 217;(with_reducible refine(ball_yes a b c _ h2 c0 c1).mono ?_);rintro e w3 ⟨rfl,hb3⟩;have Ai:=bl5 hb3 (w.heap.size);have Ae:=bl5 hb3 (w.heap.size+1);have Af:=bl5 hb3 (w1.heap.size))
 refine bodyPost_ret (by simp[results,Tryz.results161,go_sem, *];first|done|rfl) rfl ?_
 exact⟨rfl,blw⟩
set_option maxHeartbeats 1000000 in
theorem unary_large (k:Nat) (cap:Array Value) (x y r a b c:Int) (w:World) (eg:∀args w,(callFunc k args).run Tryz.prog w = .ok (.enter k args) w)
  (h:Fits x y) (r0:0≤r) (r1:r≤67108864) (hd:Does k cap x y r w (.tuple #[.agg #[.int .i64 a,.int .i64 b,.int .i64 c],.int .i64 0])) (h2:¬(Fits a b∧0≤c∧c≤67108864)) :
  Calls Tryz.prog 161 #[.agg #[.complex .f64 (fl x) (fl y),.int .i64 r],.func (.func k) #[] cap] w fun e w'=>e = .returned (.tuple #[.agg #[.complex .f64 0 0,.int .i64 0],.int .i64 8])∧Below w.heap.size w w':=by
 go_enter Tryz.func161,Tryz.ntmps161
 go_wp2_with (go_at_call 108;(with_reducible refine(read_yes x y r _ h r0 r1).mono ?_);rintro e w1 ⟨rfl,hb1⟩;have A4:=bl5 hb1 (w.heap.size);have A0:=bl5 hb1 (w.heap.size+1))
 refine(hd _ blw).mono ?_
 rintro e w2 ⟨rfl,hb2⟩
 have A7:=bl5 hb2 (w.heap.size)
 have A5:=bl5 hb2 (w.heap.size+1)
 have A8:=bl5 hb2 (w1.heap.size)
 go_wp2_with (go_at_call 217;(with_reducible refine(ball_no a b c _ h2).mono ?_);rintro e w3 ⟨rfl,hb3⟩;have Ai:=bl5 hb3 (w.heap.size);have Ae:=bl5 hb3 (w.heap.size+1);have Af:=bl5 hb3 (w1.heap.size))
 refine bodyPost_ret (by simp[results,Tryz.results161,go_sem, *];first|done|rfl) rfl ?_
 exact⟨rfl,blw⟩
set_option maxHeartbeats 1000000 in
theorem unary_err (k:Nat) (cap:Array Value) (x y r a b c q:Int) (w:World) (eg:∀args w,(callFunc k args).run Tryz.prog w = .ok (.enter k args) w)
  (h:Fits x y) (r0:0≤r) (r1:r≤67108864) (hq:(q != 0)=true) (hd:Does k cap x y r w (.tuple #[.agg #[.int .i64 a,.int .i64 b,.int .i64 c],.int .i64 q])) :
  Calls Tryz.prog 161 #[.agg #[.complex .f64 (fl x) (fl y),.int .i64 r],.func (.func k) #[] cap] w fun e w'=>e = .returned (.tuple #[.agg #[.complex .f64 0 0,.int .i64 0],.int .i64 q])∧Below w.heap.size w w':=by
 go_enter Tryz.func161,Tryz.ntmps161
 go_wp2_with (go_at_call 108;(with_reducible refine(read_yes x y r _ h r0 r1).mono ?_);rintro e w1 ⟨rfl,hb1⟩;have A4:=bl5 hb1 (w.heap.size);have A0:=bl5 hb1 (w.heap.size+1))
 refine(hd _ blw).mono ?_
 rintro e w2 ⟨rfl,hb2⟩
 have A7:=bl5 hb2 (w.heap.size)
 have A5:=bl5 hb2 (w.heap.size+1)
 have A8:=bl5 hb2 (w1.heap.size)
 go_wp2
 refine bodyPost_ret (by simp[results,Tryz.results161,go_sem, *];first|done|rfl) rfl ?_
 exact⟨rfl,blw⟩
theorem read_no (x y r:Int) (w:World) (f1:Flo x) (f2:Flo y) (h:¬(Fits x y∧0≤r∧r≤67108864)) :
  ∃a b,Calls Tryz.prog 108 #[.agg #[.complex .f64 (fl x) (fl y),.int .i64 r]] w fun e w'=>e = .returned (.tuple #[.agg #[.int .i64 a,.int .i64 b,.int .i64 r],.int .i64 2])∧Below w.heap.size w w':=by
 by_cases hf:Fits x y
 ·exact⟨x,y,read_no1 x y r w hf (by have:¬(0≤r∧r≤67108864):=fun h2=>h ⟨hf,h2⟩
                                    omega)⟩
 ·exact⟨0,0,read_no2 x y r w f1 f2 hf⟩
set_option maxHeartbeats 1000000 in
theorem unary_bad (f:Value) (x y r:Int) (w:World) (f1:Flo x) (f2:Flo y) (h:¬(Fits x y∧0≤r∧r≤67108864)) :
  Calls Tryz.prog 161 #[.agg #[.complex .f64 (fl x) (fl y),.int .i64 r],f] w fun e w'=>e = .returned (.tuple #[.agg #[.complex .f64 0 0,.int .i64 0],.int .i64 2])∧Below w.heap.size w w':=by
 go_enter Tryz.func161,Tryz.ntmps161
 go_wp2_with (go_at_call 108;obtain⟨a,b,hr⟩:=read_no x y r _ f1 f2 h;(with_reducible refine hr.mono ?_);clear hr;rintro e w1 ⟨rfl,hb1⟩;have A4:=bl5 hb1 (w.heap.size);have A0:=bl5 hb1 (w.heap.size+1))
 refine bodyPost_ret (by simp[results,Tryz.results161,go_sem, *];first|done|rfl) rfl ?_
 exact⟨rfl,blw⟩
def Does2 (k:Nat) (cap:Array Value) (x y r x' y' r':Int) (w:World) (v:Value):Prop :=
 ∀w1,Below w.heap.size w w1→Calls Tryz.prog k (#[.agg #[.int .i64 x,.int .i64 y,.int .i64 r],.agg #[.int .i64 x',.int .i64 y',.int .i64 r']]++cap) w1 fun e w'=>e = .returned v∧Below w1.heap.size w1 w'
set_option maxHeartbeats 1000000 in
theorem inner_any (k:Nat) (x y r x' y' r' a b c q:Int) (w:World) (B1 B2:Nat) (eg:∀args w,(callFunc k args).run Tryz.prog w = .ok (.enter k args) w) (hB1:B1<w.heap.size) (hB2:B2<w.heap.size)
  (k1:w.cell? ⟨B1,0,none⟩=some (.func (.func k) #[] #[])) (k2:w.cell? ⟨B2,0,none⟩=some (.int .i64 x)) (k3:w.cell? ⟨B2,1,none⟩=some (.int .i64 y)) (k4:w.cell? ⟨B2,2,none⟩=some (.int .i64 r))
  (hd:Does2 k #[] x y r x' y' r' w (.tuple #[.agg #[.int .i64 a,.int .i64 b,.int .i64 c],.int .i64 q])) :
  Calls Tryz.prog 229 #[.agg #[.int .i64 x',.int .i64 y',.int .i64 r'],.pointer (some ⟨B1,0,none⟩),.pointer (some ⟨B2,0,none⟩)] w fun e w'=>e = .returned (.tuple #[.agg #[.int .i64 a,.int .i64 b,.int .i64 c],.int .i64 q])∧Below w.heap.size w w':=by
 go_enter Tryz.func229,Tryz.ntmps229
 go_wp2_with fail
 refine(hd _ blw).mono ?_
 rintro e w2 ⟨rfl,hb2⟩
 have A7:=bl5 hb2 (w.heap.size)
 have A5:=bl5 hb2 (w.heap.size+1)
 go_wp2
 refine bodyPost_ret (by simp[results,Tryz.results229,go_sem, *];first|done|rfl) rfl ?_
 exact⟨rfl,blw⟩
end Go.Proofs.YticobgianbecpaaGreatDoor
namespace Go.Proofs.YticobgianbecpaaGreatDoor
open Go.RowKit
def Right (x y r:Int):Prop:=Fits x y∧0≤r∧r≤67108864
theorem Right.flo {x y r:Int} (h:Right x y r):Flo x∧Flo y:=⟨⟨by have:=h.1.1;omega,by have:=h.1.2.1;omega⟩,⟨by have:=h.1.2.2.1;omega,by have:=h.1.2.2.2;omega⟩⟩
theorem Does2.later {k:Nat}{cap:Array Value}{x y r x' y' r':Int}{w w3:World}{v:Value} (h:Does2 k cap x y r x' y' r' w v) (hb:Below w.heap.size w w3):Does2 k cap x y r x' y' r' w3 v :=
 fun w4 hb4=>h w4 (bl_call hb hb4)
theorem closure (w:World) (fn:Fn) (first cap:Array Value):(Instr.makeFunc fn first cap).run Tryz.prog w = .ok (.func fn first cap) w:=rfl
set_option maxHeartbeats 1000000 in
theorem binary_yes (x y r x' y' r' a b c:Int) (w:World) (k:Nat) (eg:∀args w,(callFunc k args).run Tryz.prog w = .ok (.enter k args) w) (h:Right x y r) (h':Right x' y' r') (hd:Does2 k #[] x y r x' y' r' w (.tuple #[.agg #[.int .i64 a,.int .i64 b,.int .i64 c],.int .i64 0])) (h2:Right a b c) :
  Calls Tryz.prog 182 #[.agg #[.complex .f64 (fl x) (fl y),.int .i64 r],.agg #[.complex .f64 (fl x') (fl y'),.int .i64 r'],.func (.func k) #[] #[]] w fun e w'=>e = .returned (.tuple #[.agg #[.complex .f64 (fl a) (fl b),.int .i64 c],.int .i64 0])∧Below w.heap.size w w':=by
 have hmf:=closure
 go_enter Tryz.func182,Tryz.ntmps182
 go_wp2_with fail
 refine(read_yes x y r _ h.1 h.2.1 h.2.2).mono ?_
 rintro e w1 ⟨rfl,hb1⟩
 have A4:=bl5 hb1 (w.heap.size)
 have A0:=bl5 hb1 (w.heap.size+1)
 have A6:=bl5 hb1 (w.heap.size+1+1)
 have A9:=bl5 hb1 (w.heap.size+1+1+1)
 go_wp2_with fail
 refine(unary_yes _ _ x' y' r' a b c _ (enters_of Tryz.func229 (by kernel_rfl) rfl) h'.1 h'.2.1 h'.2.2 (fun w3 hb3 => ?_) h2.1 h2.2.1 h2.2.2).mono ?_
 ·have hs3:=hb3.size
  have u1:w.heap.size+1+1<w3.heap.size:=by simp at hs3;omega
  have u2:w1.heap.size<w3.heap.size:=by simp at hs3;omega
  refine inner_any k x y r x' y' r' a b c 0 w3 (w.heap.size+1+1) w1.heap.size eg u1 u2 ?_ ?_ ?_ ?_ (hd.later ?_)
  ·rw[hb3.cell (p:=⟨w.heap.size+1+1,0,none⟩) (by simp;omega)];simp[*,go_sem]
  ·rw[hb3.cell (p:=⟨w1.heap.size,0,none⟩) (by simp)];simp[*,go_sem]
  ·rw[hb3.cell (p:=⟨w1.heap.size,1,none⟩) (by simp)];simp[*,go_sem]
  ·rw[hb3.cell (p:=⟨w1.heap.size,2,none⟩) (by simp)];simp[*,go_sem]
  ·exact blw
 ·rintro e w2 ⟨rfl,hb2⟩
  have A7:=bl5 hb2 (w.heap.size)
  have A5:=bl5 hb2 (w.heap.size+1)
  have Aa:=bl5 hb2 (w.heap.size+1+1)
  have Ab:=bl5 hb2 (w.heap.size+1+1+1)
  have A8:=bl5 hb2 (w1.heap.size)
  go_wp2
  refine bodyPost_ret (by simp[results,Tryz.results182,go_sem, *];first|done|rfl) rfl ?_
  exact⟨rfl,blw⟩
set_option maxHeartbeats 1000000 in
theorem binary_large (x y r x' y' r' a b c:Int) (w:World) (k:Nat) (eg:∀args w,(callFunc k args).run Tryz.prog w = .ok (.enter k args) w) (h:Right x y r) (h':Right x' y' r') (hd:Does2 k #[] x y r x' y' r' w (.tuple #[.agg #[.int .i64 a,.int .i64 b,.int .i64 c],.int .i64 0])) (h2:¬Right a b c) :
  Calls Tryz.prog 182 #[.agg #[.complex .f64 (fl x) (fl y),.int .i64 r],.agg #[.complex .f64 (fl x') (fl y'),.int .i64 r'],.func (.func k) #[] #[]] w fun e w'=>e = .returned (.tuple #[.agg #[.complex .f64 0 0,.int .i64 0],.int .i64 8])∧Below w.heap.size w w':=by
 have hmf:=closure
 go_enter Tryz.func182,Tryz.ntmps182
 go_wp2_with fail
 refine(read_yes x y r _ h.1 h.2.1 h.2.2).mono ?_
 rintro e w1 ⟨rfl,hb1⟩
 have A4:=bl5 hb1 (w.heap.size)
 have A0:=bl5 hb1 (w.heap.size+1)
 have A6:=bl5 hb1 (w.heap.size+1+1)
 have A9:=bl5 hb1 (w.heap.size+1+1+1)
 go_wp2_with fail
 refine(unary_large _ _ x' y' r' a b c _ (enters_of Tryz.func229 (by kernel_rfl) rfl) h'.1 h'.2.1 h'.2.2 (fun w3 hb3 => ?_) h2).mono ?_
 ·have hs3:=hb3.size
  have u1:w.heap.size+1+1<w3.heap.size:=by simp at hs3;omega
  have u2:w1.heap.size<w3.heap.size:=by simp at hs3;omega
  refine inner_any k x y r x' y' r' a b c 0 w3 (w.heap.size+1+1) w1.heap.size eg u1 u2 ?_ ?_ ?_ ?_ (hd.later ?_)
  ·rw[hb3.cell (p:=⟨w.heap.size+1+1,0,none⟩) (by simp;omega)];simp[*,go_sem]
  ·rw[hb3.cell (p:=⟨w1.heap.size,0,none⟩) (by simp)];simp[*,go_sem]
  ·rw[hb3.cell (p:=⟨w1.heap.size,1,none⟩) (by simp)];simp[*,go_sem]
  ·rw[hb3.cell (p:=⟨w1.heap.size,2,none⟩) (by simp)];simp[*,go_sem]
  ·exact blw
 ·rintro e w2 ⟨rfl,hb2⟩
  have A7:=bl5 hb2 (w.heap.size)
  have A5:=bl5 hb2 (w.heap.size+1)
  have Aa:=bl5 hb2 (w.heap.size+1+1)
  have Ab:=bl5 hb2 (w.heap.size+1+1+1)
  have A8:=bl5 hb2 (w1.heap.size)
  go_wp2
  refine bodyPost_ret (by simp[results,Tryz.results182,go_sem, *];first|done|rfl) rfl ?_
  exact⟨rfl,blw⟩
set_option maxHeartbeats 1000000 in
theorem binary_err (x y r x' y' r' a b c q:Int) (w:World) (k:Nat) (eg:∀args w,(callFunc k args).run Tryz.prog w = .ok (.enter k args) w) (h:Right x y r) (h':Right x' y' r') (hq:(q != 0)=true) (hd:Does2 k #[] x y r x' y' r' w (.tuple #[.agg #[.int .i64 a,.int .i64 b,.int .i64 c],.int .i64 q])) :
  Calls Tryz.prog 182 #[.agg #[.complex .f64 (fl x) (fl y),.int .i64 r],.agg #[.complex .f64 (fl x') (fl y'),.int .i64 r'],.func (.func k) #[] #[]] w fun e w'=>e = .returned (.tuple #[.agg #[.complex .f64 0 0,.int .i64 0],.int .i64 q])∧Below w.heap.size w w':=by
 have hmf:=closure
 go_enter Tryz.func182,Tryz.ntmps182
 go_wp2_with fail
 refine(read_yes x y r _ h.1 h.2.1 h.2.2).mono ?_
 rintro e w1 ⟨rfl,hb1⟩
 have A4:=bl5 hb1 (w.heap.size)
 have A0:=bl5 hb1 (w.heap.size+1)
 have A6:=bl5 hb1 (w.heap.size+1+1)
 have A9:=bl5 hb1 (w.heap.size+1+1+1)
 go_wp2_with fail
 refine(unary_err _ _ x' y' r' a b c q _ (enters_of Tryz.func229 (by kernel_rfl) rfl) h'.1 h'.2.1 h'.2.2 hq (fun w3 hb3 => ?_)).mono ?_
 ·have hs3:=hb3.size
  have u1:w.heap.size+1+1<w3.heap.size:=by simp at hs3;omega
  have u2:w1.heap.size<w3.heap.size:=by simp at hs3;omega
  refine inner_any k x y r x' y' r' a b c q w3 (w.heap.size+1+1) w1.heap.size eg u1 u2 ?_ ?_ ?_ ?_ (hd.later ?_)
  ·rw[hb3.cell (p:=⟨w.heap.size+1+1,0,none⟩) (by simp;omega)];simp[*,go_sem]
  ·rw[hb3.cell (p:=⟨w1.heap.size,0,none⟩) (by simp)];simp[*,go_sem]
  ·rw[hb3.cell (p:=⟨w1.heap.size,1,none⟩) (by simp)];simp[*,go_sem]
  ·rw[hb3.cell (p:=⟨w1.heap.size,2,none⟩) (by simp)];simp[*,go_sem]
  ·exact blw
 ·rintro e w2 ⟨rfl,hb2⟩
  have A7:=bl5 hb2 (w.heap.size)
  have A5:=bl5 hb2 (w.heap.size+1)
  have Aa:=bl5 hb2 (w.heap.size+1+1)
  have Ab:=bl5 hb2 (w.heap.size+1+1+1)
  have A8:=bl5 hb2 (w1.heap.size)
  go_wp2
  refine bodyPost_ret (by simp[results,Tryz.results182,go_sem, *];first|done|rfl) rfl ?_
  exact⟨rfl,blw⟩
set_option maxHeartbeats 1000000 in
theorem binary_bad2 (x y r x' y' r':Int) (w:World) (f:Value) (hf:f.oneCell'=true) (h:Right x y r) (g1:Flo x') (g2:Flo y') (h':¬Right x' y' r') :
  Calls Tryz.prog 182 #[.agg #[.complex .f64 (fl x) (fl y),.int .i64 r],.agg #[.complex .f64 (fl x') (fl y'),.int .i64 r'],f] w fun e w'=>e = .returned (.tuple #[.agg #[.complex .f64 0 0,.int .i64 0],.int .i64 2])∧Below w.heap.size w w':=by
 have hmf:=closure
 go_enter Tryz.func182,Tryz.ntmps182
 go_wp2_with fail
 refine(read_yes x y r _ h.1 h.2.1 h.2.2).mono ?_
 rintro e w1 ⟨rfl,hb1⟩
 have A4:=bl5 hb1 (w.heap.size)
 have A0:=bl5 hb1 (w.heap.size+1)
 have A6:=bl5 hb1 (w.heap.size+1+1)
 have A9:=bl5 hb1 (w.heap.size+1+1+1)
 go_wp2_with fail
 refine(unary_bad _ x' y' r' _ g1 g2 h').mono ?_
 rintro e w2 ⟨rfl,hb2⟩
 have A7:=bl5 hb2 (w.heap.size)
 have A5:=bl5 hb2 (w.heap.size+1)
 have Aa:=bl5 hb2 (w.heap.size+1+1)
 have Ab:=bl5 hb2 (w.heap.size+1+1+1)
 have A8:=bl5 hb2 (w1.heap.size)
 go_wp2
 refine bodyPost_ret (by simp[results,Tryz.results182,go_sem, *];first|done|rfl) rfl ?_
 exact⟨rfl,blw⟩
set_option maxHeartbeats 1000000 in
theorem binary_bad1 (x y r x' y' r':Int) (w:World) (f:Value) (hf:f.oneCell'=true) (f1:Flo x) (f2:Flo y) (h:¬Right x y r) :
  Calls Tryz.prog 182 #[.agg #[.complex .f64 (fl x) (fl y),.int .i64 r],.agg #[.complex .f64 (fl x') (fl y'),.int .i64 r'],f] w fun e w'=>e = .returned (.tuple #[.agg #[.complex .f64 0 0,.int .i64 0],.int .i64 2])∧Below w.heap.size w w':=by
 have hmf:=closure
 go_enter Tryz.func182,Tryz.ntmps182
 go_wp2_with fail
 obtain⟨a,b,hr⟩:=read_no x y r _ f1 f2 h
 refine hr.mono ?_
 clear hr
 rintro e w1 ⟨rfl,hb1⟩
 have A4:=bl5 hb1 (w.heap.size)
 have A0:=bl5 hb1 (w.heap.size+1)
 have A6:=bl5 hb1 (w.heap.size+1+1)
 have A9:=bl5 hb1 (w.heap.size+1+1+1)
 go_wp2
 refine bodyPost_ret (by simp[results,Tryz.results182,go_sem, *];first|done|rfl) rfl ?_
 exact⟨rfl,blw⟩
end Go.Proofs.YticobgianbecpaaGreatDoor
namespace Go.Proofs.YticobgianbecpaaGreatDoor
open Go.RowKit
instance (x y r:Int):Decidable (Right x y r):=by unfold Right Fits;infer_instance
inductive Res where
 | bad (q:Int)
 | good (a b c:Int)
 deriving DecidableEq
def out:Res→Value
 | .bad q => .tuple #[.agg #[.complex .f64 0 0,.int .i64 0],.int .i64 q]
 | .good a b c => .tuple #[.agg #[.complex .f64 (fl a) (fl b),.int .i64 c],.int .i64 0]
def fin (a b c q:Int):Res:=if q≠0 then .bad q else if Right a b c then .good a b c else .bad 8
def onOne (x y r:Int) (res:Res):Res:=if Right x y r then res else .bad 2
def onTwo (x y r x' y' r':Int) (res:Res):Res:=if Right x y r then(if Right x' y' r' then res else .bad 2)else .bad 2
theorem unary_any (k:Nat) (cap:Array Value) (x y r a b c q:Int) (w:World) (f1:Flo x) (f2:Flo y) (eg:∀args w,(callFunc k args).run Tryz.prog w = .ok (.enter k args) w)
  (hd:Right x y r→Does k cap x y r w (.tuple #[.agg #[.int .i64 a,.int .i64 b,.int .i64 c],.int .i64 q])) :
  Calls Tryz.prog 161 #[.agg #[.complex .f64 (fl x) (fl y),.int .i64 r],.func (.func k) #[] cap] w fun e w'=>e = .returned (out (onOne x y r (fin a b c q)))∧Below w.heap.size w w':=by
 unfold onOne
 by_cases h:Right x y r
 ·rw[if_pos h]
  unfold fin
  by_cases hq:q=0
  ·subst hq
   rw[if_neg (by simp)]
   by_cases h2:Right a b c
   ·rw[if_pos h2];exact unary_yes k cap x y r a b c w eg h.1 h.2.1 h.2.2 (hd h) h2.1 h2.2.1 h2.2.2
   ·rw[if_neg h2];exact unary_large k cap x y r a b c w eg h.1 h.2.1 h.2.2 (hd h) h2
  ·rw[if_pos hq];exact unary_err k cap x y r a b c q w eg h.1 h.2.1 h.2.2 (by simpa using hq) (hd h)
 ·rw[if_neg h];exact unary_bad _ x y r w f1 f2 h
theorem binary_any (k:Nat) (x y r x' y' r' a b c q:Int) (w:World) (f1:Flo x) (f2:Flo y) (g1:Flo x') (g2:Flo y') (eg:∀args w,(callFunc k args).run Tryz.prog w = .ok (.enter k args) w)
  (hd:Right x y r→Right x' y' r'→Does2 k #[] x y r x' y' r' w (.tuple #[.agg #[.int .i64 a,.int .i64 b,.int .i64 c],.int .i64 q])) :
  Calls Tryz.prog 182 #[.agg #[.complex .f64 (fl x) (fl y),.int .i64 r],.agg #[.complex .f64 (fl x') (fl y'),.int .i64 r'],.func (.func k) #[] #[]] w fun e w'=>e = .returned (out (onTwo x y r x' y' r' (fin a b c q)))∧Below w.heap.size w w':=by
 unfold onTwo
 by_cases h:Right x y r
 ·rw[if_pos h]
  by_cases h':Right x' y' r'
  ·rw[if_pos h']
   unfold fin
   by_cases hq:q=0
   ·subst hq
    rw[if_neg (by simp)]
    by_cases h2:Right a b c
    ·rw[if_pos h2];exact binary_yes x y r x' y' r' a b c w k eg h h' (hd h h') h2
    ·rw[if_neg h2];exact binary_large x y r x' y' r' a b c w k eg h h' (hd h h') h2
   ·rw[if_pos hq];exact binary_err x y r x' y' r' a b c q w k eg h h' (by simpa using hq) (hd h h')
  ·rw[if_neg h'];exact binary_bad2 x y r x' y' r' w _ rfl h g1 g2 h'
 ·rw[if_neg h];exact binary_bad1 x y r x' y' r' w _ rfl f1 f2 h
theorem Right.sh {x y r:Int} (h:Right x y r):Sh x∧Sh y:=⟨⟨by have:=h.1.1;omega,by have:=h.1.2.1;omega⟩,⟨by have:=h.1.2.2.1;omega,by have:=h.1.2.2.2;omega⟩⟩
def timesR (x y r x' y' r':Int):Int := -(-(rtu (x*x+y*y)*r'+rtu (x'*x'+y'*y')*r+r*r')/1048576)+b1 (inx (x*x'-y*y')||inx (x*y'+y*x'))
def timesM (x y r x' y' r':Int):Res:=onTwo x y r x' y' r' (fin (rnd (x*x'-y*y')) (rnd (x*y'+y*x')) (timesR x y r x' y' r') 0)
set_option maxHeartbeats 1000000 in
theorem Times_any (x y r x' y' r':Int) (w:World) (f1:Flo x) (f2:Flo y) (g1:Flo x') (g2:Flo y') :
  Calls Tryz.prog 127 #[.agg #[.complex .f64 (fl x) (fl y),.int .i64 r],.agg #[.complex .f64 (fl x') (fl y'),.int .i64 r']] w fun e w'=>e = .returned (out (timesM x y r x' y' r'))∧Below w.heap.size w w':=by
 have hd:∀w,Right x y r→Right x' y' r'→Does2 189 #[] x y r x' y' r' w (.tuple #[.agg #[.int .i64 (rnd (x*x'-y*y')),.int .i64 (rnd (x*y'+y*x')),.int .i64 (timesR x y r x' y' r')],.int .i64 0]):=fun w h h' w1 _=>by
  rw[Array.append_empty]
  exact times1_any x y r x' y' r' w1 h.sh.1 h.sh.2 h'.sh.1 h'.sh.2 h.2.1 h.2.2 h'.2.1 h'.2.2
 obtain⟨res,hres⟩:∃res,timesM x y r x' y' r'=res:=⟨_,rfl⟩
 have Hres:=Lib.hid hres
 rw[hres]
 clear hres
 cases res
 all_goals
  go_enter Tryz.func127,Tryz.ntmps127
  go_wp2_with fail
  refine(binary_any _ x y r x' y' r' _ _ _ _ _ f1 f2 g1 g2 (enters_of Tryz.func189 (by kernel_rfl) rfl) (hd _)).mono ?_
  rintro e w1 ⟨rfl,hb1⟩
  have A4:=bl5 hb1 (w.heap.size)
  have A0:=bl5 hb1 (w.heap.size+1)
  have A6:=bl5 hb1 (w.heap.size+1+1)
  rw[show onTwo x y r x' y' r' _=_ from Hres.out]
  unfold out
  go_wp2
  refine bodyPost_ret (by simp[results,Tryz.results127,go_sem, *];first|done|rfl) rfl ?_
  exact⟨rfl,blw⟩
end Go.Proofs.YticobgianbecpaaGreatDoor
