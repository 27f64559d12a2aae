/- Joined: Frac RefMakes RefFrac. -/
import Derived.Test.YtllpncmpofhgmaaGreatKDiv
import Derived.Test.YtllpncmpofhgmaaGreatKAwake
namespace Go.Proofs.YtllpncmpofhgmaaGreat
open Go.RowKit
theorem Ball_good {x y r a b c:Int} (h:fin x y r 0 = .good a b c) (w:World) :
  Calls Tryz.prog 76 #[.agg #[.int .i64 x,.int .i64 y,.int .i64 r]] w fun e w'=>e = .returned (.tuple #[.agg #[.complex .f64 (fl a) (fl b),.int .i64 c],.int .i64 0])∧Below w.heap.size w w':=by
 rw[fin_zero]at h
 by_cases hr:Right x y r
 ·rw[if_pos hr]at h
  cases h
  exact ball_yes x y r w hr.1 hr.2.1 hr.2.2
 ·rw[if_neg hr]at h;cases h
theorem Ball_bad {x y r q:Int} (h:fin x y r 0 = .bad q) (w:World) :
  Calls Tryz.prog 76 #[.agg #[.int .i64 x,.int .i64 y,.int .i64 r]] w fun e w'=>e = .returned (.tuple #[.agg #[.complex .f64 0 0,.int .i64 0],.int .i64 q])∧Below w.heap.size w w':=by
 rw[fin_zero]at h
 by_cases hr:Right x y r
 ·rw[if_pos hr]at h;cases h
 ·rw[if_neg hr]at h
  cases h
  exact ball_no x y r w hr
def ofFracM (num den:Int):Res :=
 if -1000000000≤num∧num≤1000000000∧1≤den∧den≤1000000000 then fin (srq num den) 0 (b1 (num*1048576%den != 0)) 0 else .bad 2
set_option maxHeartbeats 1000000 in
theorem OfFrac_in (num den:Int) (w:World) (h1 : -1000000000≤num) (h2:num≤1000000000) (h3:1≤den) (h4:den≤1000000000) :
  Calls Tryz.prog 124 #[.int .i64 num,.int .i64 den] w fun e w'=>e = .returned (out (fin (srq num den) 0 (b1 (num*1048576%den != 0)) 0))∧Below w.heap.size w w':=by
 have a1:(decide ((-1000000000:Int)≤num)&&decide (num≤1000000000))=true:=by simp[h1,h2]
 have a2:(decide ((1:Int)≤den)&&decide (den≤1000000000))=true:=by simp[h3,h4]
 obtain⟨res,hres⟩:∃res,fin (srq num den) 0 (b1 (num*1048576%den != 0)) 0=res:=⟨_,rfl⟩
 rw[hres]
 unfold srq at hres
 have H:=Lib.hid hres
 clear hres
 unfold out
 cases res
 all_goals
  go_enter Tryz.func124,Tryz.ntmps124
  go_wp2_with (first
   | (go_at_call 42;(with_reducible refine(small_any _ _ _ (by omega) (by omega)).mono ?_);rintro e w' ⟨rfl,rfl⟩;rw[a1])
   | (go_at_call 81;(with_reducible refine(within_any _ _ _ _).mono ?_);rintro e w' ⟨rfl,rfl⟩;rw[a2])
   | (go_at_call 37;(with_reducible refine(rounded_any _ _ _ (by omega) (by omega) (by omega) (by omega)).mono ?_);rintro e w' ⟨rfl,k,rfl⟩)
   | (go_at_call 40;(with_reducible refine(one_any _ _).mono ?_);rintro e w' ⟨rfl,rfl⟩)
   | (go_at_call 76;first|(refine(Ball_good H.out _).mono ?_;rintro e w1 ⟨rfl,hb1⟩;have A0:=bl5 hb1 (w.heap.size))|(refine(Ball_bad H.out _).mono ?_;rintro e w1 ⟨rfl,hb1⟩;have A0:=bl5 hb1 (w.heap.size))))
  refine bodyPost_ret (by simp[results,Tryz.results124,go_sem, *];first|done|rfl) rfl ?_
  exact⟨rfl,blw⟩
set_option maxHeartbeats 1000000 in
theorem OfFrac_out (num den:Int) (w:World) (h:¬(-1000000000≤num∧num≤1000000000∧1≤den∧den≤1000000000)) :
  Calls Tryz.prog 124 #[.int .i64 num,.int .i64 den] w fun e w'=>e = .returned (out (.bad 2))∧Below w.heap.size w w':=by
 unfold out
 by_cases c1 : -1000000000≤num∧num≤1000000000
 ·have a1:(decide ((-1000000000:Int)≤num)&&decide (num≤1000000000))=true:=by simp[c1.1,c1.2]
  have a2:(decide ((1:Int)≤den)&&decide (den≤1000000000))=false:=by rw[Bool.eq_false_iff];simp;omega
  clear c1 h
  go_enter Tryz.func124,Tryz.ntmps124
  go_wp2_with (first
   | (go_at_call 42;(with_reducible refine(small_any _ _ _ (by omega) (by omega)).mono ?_);rintro e w' ⟨rfl,rfl⟩;rw[a1])
   | (go_at_call 81;(with_reducible refine(within_any _ _ _ _).mono ?_);rintro e w' ⟨rfl,rfl⟩;rw[a2]))
  refine bodyPost_ret (by simp[results,Tryz.results124,go_sem, *];first|done|rfl) rfl ?_
  exact⟨rfl,blw⟩
 ·have a1:(decide ((-1000000000:Int)≤num)&&decide (num≤1000000000))=false:=by rw[Bool.eq_false_iff];simp;omega
  clear c1 h
  go_enter Tryz.func124,Tryz.ntmps124
  go_wp2_with (first
   | (go_at_call 42;(with_reducible refine(small_any _ _ _ (by omega) (by omega)).mono ?_);rintro e w' ⟨rfl,rfl⟩;rw[a1]))
  refine bodyPost_ret (by simp[results,Tryz.results124,go_sem, *];first|done|rfl) rfl ?_
  exact⟨rfl,blw⟩
theorem OfFrac_any (num den:Int) (w:World) :
  Calls Tryz.prog 124 #[.int .i64 num,.int .i64 den] w fun e w'=>e = .returned (out (ofFracM num den))∧Below w.heap.size w w':=by
 unfold ofFracM
 by_cases h : -1000000000≤num∧num≤1000000000∧1≤den∧den≤1000000000
 ·rw[if_pos h];exact OfFrac_in num den w h.1 h.2.1 h.2.2.1 h.2.2.2
 ·rw[if_neg h];exact OfFrac_out num den w h
end Go.Proofs.YtllpncmpofhgmaaGreat
namespace Go.Proofs.YtllpncmpofhgmaaGreat
open Go.RowKit
end Go.Proofs.YtllpncmpofhgmaaGreat
namespace Go.Proofs.YtllpncmpofhgmaaGreat
open Go.RowKit
theorem round_near {n b:Int} (hb:0<b):n/b≤(2*n+b)/(2*b)∧(2*n+b)/(2*b)≤n/b+1:=by
 rw[round_eq hb]
 split<;>omega
theorem scaled_great {n b:Int} (hb:0<b) (hq:n/b < -268435456∨268435456<n/b):srq n b < -67108864∨67108864<srq n b:=by
 have h:=round_near (n:=n*1048576) hb
 unfold srq
 rcases hq with hq|hq
 ·left
  have a:n < -268435456*b:=(Int.ediv_lt_iff_lt_mul hb).1 hq
  have:n*1048576/b < -268435456:=by rw[Int.ediv_lt_iff_lt_mul hb];omega
  omega
 ·right
  have a:268435457*b≤n:=(Int.le_ediv_iff_mul_le hb).1 (by omega)
  have:268435457≤n*1048576/b:=by rw[Int.le_ediv_iff_mul_le hb];omega
  omega
theorem fin_great {x r:Int} (h:x < -67108864∨67108864<x):fin x 0 r 0 = .bad 8:=by
 rw[fin_zero,if_neg]
 unfold Right Fits
 omega
end Go.Proofs.YtllpncmpofhgmaaGreat
