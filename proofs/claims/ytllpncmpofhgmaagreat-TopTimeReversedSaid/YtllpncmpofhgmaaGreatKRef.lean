/- Joined: Ref Ref2 Ref3 Ref4 Ref5. -/
import Derived.Test.YtllpncmpofhgmaaGreatKBall
namespace Go.Proofs.YtllpncmpofhgmaaGreat
open Go.RowKit
theorem rt_def (n:Int):rt n=(rootBits n.toNat 31 0:Nat):=by unfold rt;rfl
set_option maxHeartbeats 400000 in
theorem bWithin_any (n lo hi:Int) (w:World) :
  Calls Tryz.prog 20 #[.int .i64 n,.int .i64 lo,.int .i64 hi] w fun e w'=>e = .returned (.bool (decide (lo≤n)&&decide (n≤hi)))∧w'=w:=by
 by_cases h1:lo≤n<;>by_cases h2:n≤hi
 all_goals
  go_enter Tryz.func20,Tryz.ntmps20
  go_wp2
  go_ret
  simp[h1,h2]
def outR:Res→Value
 | .bad q => .tuple #[.agg #[.int .i64 0,.int .i64 0,.int .i64 0],.int .i64 q]
 | .good a b c => .tuple #[.agg #[.int .i64 a,.int .i64 b,.int .i64 c],.int .i64 0]
theorem fin_zero (a b c:Int):fin a b c 0=if Right a b c then .good a b c else .bad 8:=by unfold fin;rw[if_neg (by simp)]
theorem round_eq {n b:Int} (hb:0<b):(2*n+b)/(2*b)=if b-n%b≤n%b then n/b+1 else n/b:=by
 have h1:=Int.mul_ediv_add_emod n b
 have h2:=Int.emod_nonneg n (show b≠0 by omega)
 have h3:=Int.emod_lt_of_pos n hb
 have e:2*n+b=2*b*(n/b)+(2*(n%b)+b):=by rw[Int.mul_assoc];omega
 by_cases h:b-n%b≤n%b
 ·rw[if_pos h]
  have e2:2*b*(n/b+1)=2*b*(n/b)+2*b:=by rw[Int.mul_add];omega
  exact((Int.ediv_emod_unique (a:=2*n+b) (b:=2*b) (r:=2*(n%b)-b) (q:=n/b+1) (by omega)).2 ⟨by omega,by omega,by omega⟩).1
 ·rw[if_neg h]
  exact((Int.ediv_emod_unique (a:=2*n+b) (b:=2*b) (r:=2*(n%b)+b) (q:=n/b) (by omega)).2 ⟨by omega,by omega,by omega⟩).1
theorem rounded_aux (n b:Int) (hb:0<b):∃q r,n/b=q∧n=q*b+r∧0≤r∧r<b∧n%b=r:=by
 have m1:=Int.mul_ediv_add_emod n b
 exact⟨n/b,n%b,rfl,by rw[Int.mul_comm (n/b)];omega,Int.emod_nonneg n (by omega),Int.emod_lt_of_pos n hb,rfl⟩
end Go.Proofs.YtllpncmpofhgmaaGreat
namespace Go.Proofs.YtllpncmpofhgmaaGreat
open Go.RowKit
end Go.Proofs.YtllpncmpofhgmaaGreat
namespace Go.Proofs.YtllpncmpofhgmaaGreat
open Go.RowKit
set_option maxHeartbeats 400000 in
theorem Num_any (x y:Int) (w:World) :
  Calls Tryz.prog 62 #[.int .i64 x,.int .i64 y] w fun e w'=>e = .returned (.complex .f64 (fl x) (fl y))∧w'=w:=by
 go_enter Tryz.func62,Tryz.ntmps62
 go_wp2
 go_ret
 exact⟨rfl,rfl⟩
set_option maxHeartbeats 400000 in
theorem bBall_any (x y r:Int) (w:World) :
  Calls Tryz.prog 23 #[.int .i64 x,.int .i64 y,.int .i64 r] w fun e w'=>e = .returned (.agg #[.complex .f64 (fl x) (fl y),.int .i64 r])∧Below w.heap.size w w':=by
 go_enter Tryz.func23,Tryz.ntmps23
 go_wp2_with (go_at_call 62;(with_reducible refine(Num_any _ _ _).mono ?_);rintro e w' ⟨rfl,rfl⟩)
 refine bodyPost_ret (by simp[results,Tryz.results23,go_sem, *];first|done|rfl) rfl ?_
 exact⟨rfl,blw⟩
end Go.Proofs.YtllpncmpofhgmaaGreat
namespace Go.Proofs.YtllpncmpofhgmaaGreat
open Go.RowKit
end Go.Proofs.YtllpncmpofhgmaaGreat
namespace Go.Proofs.YtllpncmpofhgmaaGreat
open Go.RowKit
set_option maxHeartbeats 400000 in
theorem SameBits_same (a b:Nat) (w:World) :
  Calls Tryz.prog 61 #[.complex .f64 a b,.complex .f64 a b] w fun e w'=>e = .returned (.bool true)∧w'=w:=by
 have hx:=fun w=>run_bits a w
 have hy:=fun w=>run_bits b w
 go_enter Tryz.func61,Tryz.ntmps61
 go_wp2
 go_ret
 exact⟨rfl,rfl⟩
set_option maxHeartbeats 400000 in
theorem SameBall_same (a b:Nat) (r:Int) (w:World) :
  Calls Tryz.prog 22 #[.agg #[.complex .f64 a b,.int .i64 r],.agg #[.complex .f64 a b,.int .i64 r]] w fun e w'=>e = .returned (.bool true)∧Below w.heap.size w w':=by
 go_enter Tryz.func22,Tryz.ntmps22
 go_wp2_with (go_at_call 61;(with_reducible refine(SameBits_same _ _ _).mono ?_);rintro e w' ⟨rfl,rfl⟩)
 go_ret
 exact⟨rfl,blw⟩
end Go.Proofs.YtllpncmpofhgmaaGreat
