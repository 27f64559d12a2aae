/- Joined: Whole2 Lies Lies2. -/
import Derived.Test.YticobgianbecpaaGreatDoorKBall
import Derived.Test.YticobgianbecpaaGreatDoorKAdds
import Derived.Test.YticobgianbecpaaGreatDoorKCalm
namespace Go.Proofs.YticobgianbecpaaGreatDoor
open Go.RowKit
theorem most2_eq:fl 134217728=4728779608739020800:=by decide
def Fits2 (x y:Int):Prop := -134217728≤x∧x≤134217728 ∧ -134217728≤y∧y≤134217728
theorem ord2_in (n:Int) (h1 : -134217728≤n) (h2:n≤134217728):(FloatKind.f64.format.order (fl (n.natAbs:Nat)) 4728779608739020800==some .gt)=false:=by
 rw[← most2_eq]
 by_cases h:(n.natAbs:Int)=134217728
 ·rw[h,ord_eq (by omega) (by omega)];rfl
 ·rw[ord_lt (by omega) (by omega) (by omega) (by omega) (by omega)];rfl
theorem ord2_out (n:Int) (h1 : -9007199254740992≤n) (h2:n≤9007199254740992) (h:n < -134217728∨134217728<n):(FloatKind.f64.format.order (fl (n.natAbs:Nat)) 4728779608739020800==some .gt)=true:=by
 rw[← most2_eq,ord_gt (by omega) (by omega) (by omega) (by omega) (by omega)];rfl
set_option maxHeartbeats 1000000 in
theorem whole2_yes (x y:Int) (w:World) (h:Fits2 x y) :
  Calls Tryz.prog 169 #[.complex .f64 (fl x) (fl y),.float .f64 4728779608739020800] w fun e w'=>e = .returned (.tuple #[.agg #[.int .i64 x,.int .i64 y],.int .i64 0])∧Below w.heap.size w w':=by
 obtain⟨h1,h2,h3,h4⟩:=h
 have ox:=ord2_in x h1 h2
 have oy:=ord2_in y h3 h4
 have i0:∀w,(Instr.index 242 (.agg #[.float .f64 (fl x),.float .f64 (fl y)]) (.int .i64 0)).run Tryz.prog w = .ok (.float .f64 (fl x)) w:=fun _=>by kernel_rfl
 have i1:∀w,(Instr.index 242 (.agg #[.float .f64 (fl x),.float .f64 (fl y)]) (.int .i64 1)).run Tryz.prog w = .ok (.float .f64 (fl y)) w:=fun _=>by kernel_rfl
 go_enter Tryz.func169,Tryz.ntmps169
 go_wp2_with fail
 refine wp_loop_rounds 3 ?_
 iterate 3 (rw[rounds_succ];go_wp2_with (first
  | (go_at_call 221;first|(with_reducible refine(isWhole_any x _ (by omega) (by omega)).mono ?_;rintro e w' ⟨rfl,rfl⟩)|(with_reducible refine(isWhole_any y _ (by omega) (by omega)).mono ?_;rintro e w' ⟨rfl,rfl⟩))))
 refine wp_loop_rounds 3 ?_
 iterate 3 (rw[rounds_succ];go_wp2_with (first
  | (go_at_call 222;first|(with_reducible refine(abs_any x _).mono ?_;rintro e w' ⟨rfl,rfl⟩)|(with_reducible refine(abs_any y _).mono ?_;rintro e w' ⟨rfl,rfl⟩))
  | (go_at_call 223;(with_reducible refine(centerOf_any x y _ (by omega) (by omega) (by omega) (by omega)).mono ?_);rintro e w1 ⟨rfl,hb1⟩;have A2:=bl5 hb1 (w.heap.size))))
 refine bodyPost_ret (by simp[results,Tryz.results169,go_sem, *];first|done|rfl) rfl ?_
 exact⟨rfl,blw⟩
set_option maxHeartbeats 1000000 in
theorem whole2_no1 (x y:Int) (w:World) (f1:Flo x) (f2:Flo y) (h:x < -134217728∨134217728<x) :
  Calls Tryz.prog 169 #[.complex .f64 (fl x) (fl y),.float .f64 4728779608739020800] w fun e w'=>e = .returned (.tuple #[.agg #[.int .i64 0,.int .i64 0],.int .i64 2])∧Below w.heap.size w w':=by
 obtain⟨h1,h2⟩:=f1
 obtain⟨h3,h4⟩:=f2
 have ox:=ord2_out x h1 h2 h
 clear h
 have i0:∀w,(Instr.index 242 (.agg #[.float .f64 (fl x),.float .f64 (fl y)]) (.int .i64 0)).run Tryz.prog w = .ok (.float .f64 (fl x)) w:=fun _=>by kernel_rfl
 have i1:∀w,(Instr.index 242 (.agg #[.float .f64 (fl x),.float .f64 (fl y)]) (.int .i64 1)).run Tryz.prog w = .ok (.float .f64 (fl y)) w:=fun _=>by kernel_rfl
 go_enter Tryz.func169,Tryz.ntmps169
 go_wp2_with fail
 refine wp_loop_rounds 3 ?_
 iterate 3 (rw[rounds_succ];go_wp2_with (first
  | (go_at_call 221;first|(with_reducible refine(isWhole_any x _ (by omega) (by omega)).mono ?_;rintro e w' ⟨rfl,rfl⟩)|(with_reducible refine(isWhole_any y _ (by omega) (by omega)).mono ?_;rintro e w' ⟨rfl,rfl⟩))))
 refine wp_loop_rounds 3 ?_
 iterate 1 (rw[rounds_succ];go_wp2_with (first
  | (go_at_call 222;first|(with_reducible refine(abs_any x _).mono ?_;rintro e w' ⟨rfl,rfl⟩)|(with_reducible refine(abs_any y _).mono ?_;rintro e w' ⟨rfl,rfl⟩))
  | (go_at_call 223;(with_reducible refine(centerOf_any x y _ (by omega) (by omega) (by omega) (by omega)).mono ?_);rintro e w1 ⟨rfl,hb1⟩;have A2:=bl5 hb1 (w.heap.size))))
 refine bodyPost_ret (by simp[results,Tryz.results169,go_sem, *];first|done|rfl) rfl ?_
 exact⟨rfl,blw⟩
set_option maxHeartbeats 1000000 in
theorem whole2_no2 (x y:Int) (w:World) (f2:Flo y) (hx : -134217728≤x∧x≤134217728) (h:y < -134217728∨134217728<y) :
  Calls Tryz.prog 169 #[.complex .f64 (fl x) (fl y),.float .f64 4728779608739020800] w fun e w'=>e = .returned (.tuple #[.agg #[.int .i64 0,.int .i64 0],.int .i64 2])∧Below w.heap.size w w':=by
 obtain⟨h3,h4⟩:=f2
 have ox:=ord2_in x hx.1 hx.2
 have oy:=ord2_out y h3 h4 h
 clear h
 have i0:∀w,(Instr.index 242 (.agg #[.float .f64 (fl x),.float .f64 (fl y)]) (.int .i64 0)).run Tryz.prog w = .ok (.float .f64 (fl x)) w:=fun _=>by kernel_rfl
 have i1:∀w,(Instr.index 242 (.agg #[.float .f64 (fl x),.float .f64 (fl y)]) (.int .i64 1)).run Tryz.prog w = .ok (.float .f64 (fl y)) w:=fun _=>by kernel_rfl
 go_enter Tryz.func169,Tryz.ntmps169
 go_wp2_with fail
 refine wp_loop_rounds 3 ?_
 iterate 3 (rw[rounds_succ];go_wp2_with (first
  | (go_at_call 221;first|(with_reducible refine(isWhole_any x _ (by omega) (by omega)).mono ?_;rintro e w' ⟨rfl,rfl⟩)|(with_reducible refine(isWhole_any y _ (by omega) (by omega)).mono ?_;rintro e w' ⟨rfl,rfl⟩))))
 refine wp_loop_rounds 3 ?_
 iterate 2 (rw[rounds_succ];go_wp2_with (first
  | (go_at_call 222;first|(with_reducible refine(abs_any x _).mono ?_;rintro e w' ⟨rfl,rfl⟩)|(with_reducible refine(abs_any y _).mono ?_;rintro e w' ⟨rfl,rfl⟩))
  | (go_at_call 223;(with_reducible refine(centerOf_any x y _ (by omega) (by omega) (by omega) (by omega)).mono ?_);rintro e w1 ⟨rfl,hb1⟩;have A2:=bl5 hb1 (w.heap.size))))
 refine bodyPost_ret (by simp[results,Tryz.results169,go_sem, *];first|done|rfl) rfl ?_
 exact⟨rfl,blw⟩
end Go.Proofs.YticobgianbecpaaGreatDoor
namespace Go.Proofs.YticobgianbecpaaGreatDoor
open Go.RowKit
@[irreducible] def apB (a b c d m:Int):Bool:=decide (0≤m)&&decide ((a-c)*(a-c)+(b-d)*(b-d)≤m*m)
set_option maxHeartbeats 1000000 in
theorem apart_any (a b c d m:Int) (w:World) (h1:Sm a) (h2:Sm b) (h3:Sm c) (h4:Sm d) (h5:Sm (a-c)) (h6:Sm (b-d)) (h7:Sm m) :
  Calls Tryz.prog 142 #[.agg #[.int .i64 a,.int .i64 b],.agg #[.int .i64 c,.int .i64 d],.int .i64 m] w fun e w'=>e = .returned (.bool (apB a b c d m))∧Below w.heap.size w w':=by
 have q1:=h7.mul h7
 by_cases hm:0≤m
 ·have e:apB a b c d m=decide ((a-c)*(a-c)+(b-d)*(b-d)≤m*m):=by unfold apB;simp[hm]
  rw[e]
  have cm:=fun w=>minus_any a b c d w h1 h2 h3 h4
  have cs:=fun w=>square_any (a-c) (b-d) w h5 h6
  have s5:=h5.mul h5
  have s6:=h6.mul h6
  generalize (a-c)*(a-c)+(b-d)*(b-d)=S at *
  have CM:=Lib.hid cm
  have CS:=Lib.hid cs
  clear cm cs s5 s6 h5 h6
  go_enter Tryz.func142,Tryz.ntmps142
  go_wp2_with fail
  refine(CM.out _).mono ?_
  rintro e w1 ⟨rfl,A1⟩
  have A0:=A1.size
  (try simp at A0)
  go_wp2_with fail
  refine(CS.out _).mono ?_
  rintro e w2 ⟨rfl,A5⟩
  have A3:=A5.size
  (try simp at A3)
  go_wp2
  go_ret
  exact⟨rfl,blw⟩
 ·have e:apB a b c d m=false:=by unfold apB;simp[hm]
  rw[e]
  go_enter Tryz.func142,Tryz.ntmps142
  go_wp2
  go_ret
  exact⟨rfl,blw⟩
theorem Sm.of {x:Int} (h1 : -1073741824≤x) (h2:x≤1073741824):Sm x:=⟨h1,h2⟩
set_option maxHeartbeats 1000000 in
theorem meets1_any (a b r c d s:Int) (w:World) (h:Right a b r) (h':Right c d s) :
  Calls Tryz.prog 141 #[.agg #[.int .i64 a,.int .i64 b,.int .i64 r],.agg #[.int .i64 c,.int .i64 d,.int .i64 s]] w fun e w'=>e = .returned (.bool (apB a b c d (r+s)))∧Below w.heap.size w w':=by
 obtain⟨⟨h1,h2,h3,h4⟩,r0,r1⟩:=h
 obtain⟨⟨h5,h6,h7,h8⟩,s0,s1⟩:=h'
 have C:=Lib.hid (fun w=>apart_any a b c d (r+s) w (.of (by omega) (by omega)) (.of (by omega) (by omega)) (.of (by omega) (by omega)) (.of (by omega) (by omega)) (.of (by omega) (by omega)) (.of (by omega) (by omega)) (.of (by omega) (by omega)))
 go_enter Tryz.func141,Tryz.ntmps141
 go_wp2_with fail
 refine(C.out _).mono ?_
 rintro e w1 ⟨rfl,A1⟩
 have A0:=A1.size
 (try simp at A0)
 go_wp2
 go_ret
 exact⟨rfl,blw⟩
def Asks (k:Nat) (x y r x' y' r':Int) (v:Bool):Prop :=
 ∀w1,Calls Tryz.prog k #[.agg #[.int .i64 x,.int .i64 y,.int .i64 r],.agg #[.int .i64 x',.int .i64 y',.int .i64 r']] w1 fun e w'=>e = .returned (.bool v)∧Below w1.heap.size w1 w'
theorem Asks.go {k:Nat}{x y r x' y' r':Int}{v:Bool} (h:Asks k x y r x' y' r' v) (w1:World):Calls Tryz.prog k #[.agg #[.int .i64 x,.int .i64 y,.int .i64 r],.agg #[.int .i64 x',.int .i64 y',.int .i64 r']] w1 fun e w'=>e = .returned (.bool v)∧Below w1.heap.size w1 w':=h w1
set_option maxHeartbeats 1000000 in
theorem ask_yes (k:Nat) (x y r x' y' r':Int) (v:Bool) (w:World) (eg:∀args w,(callFunc k args).run Tryz.prog w = .ok (.enter k args) w) (h:Right x y r) (h':Right x' y' r') (hd:Asks k x y r x' y' r' v) :
  Calls Tryz.prog 140 #[.agg #[.complex .f64 (fl x) (fl y),.int .i64 r],.agg #[.complex .f64 (fl x') (fl y'),.int .i64 r'],.func (.func k) #[] #[]] w fun e w'=>e = .returned (.tuple #[.bool v,.int .i64 0])∧Below w.heap.size w w':=by
 go_enter Tryz.func140,Tryz.ntmps140
 go_wp2_with fail
 refine(read_yes x y r _ h.1 h.2.1 h.2.2).mono ?_
 rintro e w1 ⟨rfl,A1⟩
 have A0:=A1.size
 (try simp at A0)
 have A4:=bl5 A1 (w.heap.size+1)
 go_wp2_with fail
 refine(read_yes x' y' r' _ h'.1 h'.2.1 h'.2.2).mono ?_
 rintro e w2 ⟨rfl,A5⟩
 have A3:=A5.size
 (try simp at A3)
 have A6:=bl5 A5 (w1.heap.size)
 go_wp2_with fail
 refine(hd.go _).mono ?_
 rintro e w3 ⟨rfl,A7⟩
 have A8:=A7.size
 (try simp at A8)
 go_wp2
 go_ret2
 exact⟨rfl,blw⟩
set_option maxHeartbeats 1000000 in
theorem ask_bad1 (f:Value) (x y r x' y' r':Int) (w:World) (f1:Flo x) (f2:Flo y) (h:¬Right x y r) :
  Calls Tryz.prog 140 #[.agg #[.complex .f64 (fl x) (fl y),.int .i64 r],.agg #[.complex .f64 (fl x') (fl y'),.int .i64 r'],f] w fun e w'=>e = .returned (.tuple #[.bool false,.int .i64 2])∧Below w.heap.size w w':=by
 have R:Hid (∀w,∃a b,Calls Tryz.prog 108 #[.agg #[.complex .f64 (fl x) (fl y),.int .i64 r]] w fun e w'=>e = .returned (.tuple #[.agg #[.int .i64 a,.int .i64 b,.int .i64 r],.int .i64 2])∧Below w.heap.size w w'):=Lib.hid fun w=>read_no x y r w f1 f2 h
 go_enter Tryz.func140,Tryz.ntmps140
 go_wp2_with fail
 obtain⟨a,b,hr⟩:=R.out _
 refine hr.mono ?_
 clear hr
 rintro e w1 ⟨rfl,hb1⟩
 have A0:=hb1.size
 (try simp at A0)
 have A2:=bl5 hb1 (w.heap.size)
 have A4:=bl5 hb1 (w.heap.size+1)
 go_wp2
 go_ret2
 exact⟨rfl,blw⟩
set_option maxHeartbeats 1000000 in
theorem ask_bad2 (f:Value) (x y r x' y' r':Int) (w:World) (h:Right x y r) (f1:Flo x') (f2:Flo y') (h':¬Right x' y' r') :
  Calls Tryz.prog 140 #[.agg #[.complex .f64 (fl x) (fl y),.int .i64 r],.agg #[.complex .f64 (fl x') (fl y'),.int .i64 r'],f] w fun e w'=>e = .returned (.tuple #[.bool false,.int .i64 2])∧Below w.heap.size w w':=by
 have R:Hid (∀w,∃a b,Calls Tryz.prog 108 #[.agg #[.complex .f64 (fl x') (fl y'),.int .i64 r']] w fun e w'=>e = .returned (.tuple #[.agg #[.int .i64 a,.int .i64 b,.int .i64 r'],.int .i64 2])∧Below w.heap.size w w'):=Lib.hid fun w=>read_no x' y' r' w f1 f2 h'
 go_enter Tryz.func140,Tryz.ntmps140
 go_wp2_with fail
 refine(read_yes x y r _ h.1 h.2.1 h.2.2).mono ?_
 rintro e w1 ⟨rfl,hb1⟩
 have A0:=hb1.size
 (try simp at A0)
 have A2:=bl5 hb1 (w.heap.size)
 have A4:=bl5 hb1 (w.heap.size+1)
 go_wp2_with fail
 obtain⟨a,b,hr⟩:=R.out _
 refine hr.mono ?_
 clear hr
 rintro e w2 ⟨rfl,hb2⟩
 have A3:=hb2.size
 (try simp at A3)
 have Aa:=bl5 hb2 (w.heap.size)
 have A9:=bl5 hb2 (w.heap.size+1)
 have A6:=bl5 hb2 (w1.heap.size)
 go_wp2
 go_ret2
 exact⟨rfl,blw⟩
@[irreducible] def askV (x y r x' y' r':Int) (v:Bool):Bool:=if Right x y r∧Right x' y' r' then v else false
@[irreducible] def askQ (x y r x' y' r':Int):Int:=if Right x y r∧Right x' y' r' then 0 else 2
theorem ask_any (k:Nat) (x y r x' y' r':Int) (v:Bool) (w:World) (eg:∀args w,(callFunc k args).run Tryz.prog w = .ok (.enter k args) w) (f1:Flo x) (f2:Flo y) (g1:Flo x') (g2:Flo y') (hd:Right x y r→Right x' y' r'→Asks k x y r x' y' r' v) :
  Calls Tryz.prog 140 #[.agg #[.complex .f64 (fl x) (fl y),.int .i64 r],.agg #[.complex .f64 (fl x') (fl y'),.int .i64 r'],.func (.func k) #[] #[]] w fun e w'=>e = .returned (.tuple #[.bool (askV x y r x' y' r' v),.int .i64 (askQ x y r x' y' r')])∧Below w.heap.size w w':=by
 unfold askV askQ
 by_cases h:Right x y r
 ·by_cases h':Right x' y' r'
  ·rw[if_pos ⟨h,h'⟩,if_pos ⟨h,h'⟩];exact ask_yes k x y r x' y' r' v w eg h h' (hd h h')
  ·rw[if_neg (fun k=>h' k.2),if_neg (fun k=>h' k.2)];exact ask_bad2 _ x y r x' y' r' w h g1 g2 h'
 ·rw[if_neg (fun k=>h k.1),if_neg (fun k=>h k.1)];exact ask_bad1 _ x y r x' y' r' w f1 f2 h
set_option maxHeartbeats 1000000 in
theorem Meets_any (x y r x' y' r':Int) (w:World) (f1:Flo x) (f2:Flo y) (g1:Flo x') (g2:Flo y') :
  Calls Tryz.prog 93 #[.agg #[.complex .f64 (fl x) (fl y),.int .i64 r],.agg #[.complex .f64 (fl x') (fl y'),.int .i64 r']] w fun e w'=>e = .returned (.tuple #[.bool (askV x y r x' y' r' (apB x y x' y' (r+r'))),.int .i64 (askQ x y r x' y' r')])∧Below w.heap.size w w':=by
 have hd:Right x y r→Right x' y' r'→Asks 141 x y r x' y' r' (apB x y x' y' (r+r')):=fun h h' w1=>meets1_any x y r x' y' r' w1 h h'
 generalize apB x y x' y' (r+r')=v at *
 go_enter Tryz.func93,Tryz.ntmps93
 go_wp2_with fail
 refine(ask_any _ x y r x' y' r' v _ (enters_of Tryz.func141 (by kernel_rfl) rfl) f1 f2 g1 g2 hd).mono ?_
 rintro e w1 ⟨rfl,A1⟩
 have A0:=A1.size
 (try simp at A0)
 go_wp2
 go_ret2
 exact⟨rfl,blw⟩
end Go.Proofs.YticobgianbecpaaGreatDoor
namespace Go.Proofs.YticobgianbecpaaGreatDoor
open Go.RowKit
theorem whole2_no (x y:Int) (w:World) (f1:Flo x) (f2:Flo y) (h:¬Fits2 x y) :
  Calls Tryz.prog 169 #[.complex .f64 (fl x) (fl y),.float .f64 4728779608739020800] w fun e w'=>e = .returned (.tuple #[.agg #[.int .i64 0,.int .i64 0],.int .i64 2])∧Below w.heap.size w w':=by
 unfold Fits2 at h
 by_cases h1:x < -134217728∨134217728<x
 ·exact whole2_no1 x y w f1 f2 h1
 ·exact whole2_no2 x y w f2 (by omega) (by omega)
theorem apB_pos {a b c d m:Int} (hm:0≤m):apB a b c d m=decide ((a-c)*(a-c)+(b-d)*(b-d)≤m*m):=by unfold apB;simp[hm]
theorem sq_sym (a c:Int):(a-c)*(a-c)=(c-a)*(c-a):=by
 rw[show c-a = -(a-c)by omega,Int.neg_mul_neg]
end Go.Proofs.YticobgianbecpaaGreatDoor
