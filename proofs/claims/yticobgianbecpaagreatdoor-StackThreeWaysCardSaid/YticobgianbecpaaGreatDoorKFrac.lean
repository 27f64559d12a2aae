/- Joined: Frac RefMakes RefFrac. -/
import Derived.Test.YticobgianbecpaaGreatDoorKDiv
import Derived.Test.YticobgianbecpaaGreatDoorKAwake
namespace Go.Proofs.YticobgianbecpaaGreatDoor
open Go.RowKit
theorem Ball_good {x y r a b c:Int} (h:fin x y r 0 = .good a b c) (w:World) :
  Calls Tryz.prog 217 #[.agg #[.int .i64 x,.int .i64 y,.int .i64 r]] w fun e w'=>e = .returned (.tuple #[.agg #[.complex .f64 (fl a) (fl b),.int .i64 c],.int .i64 0])∧Below w.heap.size w w':=by
 rw[fin_zero]at h
 by_cases hr:Right x y r
 ·rw[if_pos hr]at h
  cases h
  exact ball_yes x y r w hr.1 hr.2.1 hr.2.2
 ·rw[if_neg hr]at h;cases h
theorem Ball_bad {x y r q:Int} (h:fin x y r 0 = .bad q) (w:World) :
  Calls Tryz.prog 217 #[.agg #[.int .i64 x,.int .i64 y,.int .i64 r]] w fun e w'=>e = .returned (.tuple #[.agg #[.complex .f64 0 0,.int .i64 0],.int .i64 q])∧Below w.heap.size w w':=by
 rw[fin_zero]at h
 by_cases hr:Right x y r
 ·rw[if_pos hr]at h;cases h
 ·rw[if_neg hr]at h
  cases h
  exact ball_no x y r w hr
def ofFracM (num den:Int):Res :=
 if -1000000000≤num∧num≤1000000000∧1≤den∧den≤1000000000 then fin (srq num den) 0 (b1 (num*1048576%den != 0)) 0 else .bad 2
set_option maxHeartbeats 1000000 in
theorem OfFrac_in (num den:Int) (w:World) (h1 : -1000000000≤num) (h2:num≤1000000000) (h3:1≤den) (h4:den≤1000000000) :
  Calls Tryz.prog 214 #[.int .i64 num,.int .i64 den] w fun e w'=>e = .returned (out (fin (srq num den) 0 (b1 (num*1048576%den != 0)) 0))∧Below w.heap.size w w':=by
 have a1:(decide ((-1000000000:Int)≤num)&&decide (num≤1000000000))=true:=by simp[h1,h2]
 have a2:(decide ((1:Int)≤den)&&decide (den≤1000000000))=true:=by simp[h3,h4]
 obtain⟨res,hres⟩:∃res,fin (srq num den) 0 (b1 (num*1048576%den != 0)) 0=res:=⟨_,rfl⟩
 rw[hres]
 unfold srq at hres
 have H:=Lib.hid hres
 clear hres
 unfold out
 cases res
 all_goals
  go_enter Tryz.func214,Tryz.ntmps214
  go_wp2_with (first
   | (go_at_call 164;(with_reducible refine(small_any _ _ _ (by omega) (by omega)).mono ?_);rintro e w' ⟨rfl,rfl⟩;rw[a1])
   | (go_at_call 170;(with_reducible refine(within_any _ _ _ _).mono ?_);rintro e w' ⟨rfl,rfl⟩;rw[a2])
   | (go_at_call 191;(with_reducible refine(rounded_any _ _ _ (by omega) (by omega) (by omega) (by omega)).mono ?_);rintro e w' ⟨rfl,k,rfl⟩)
   | (go_at_call 192;(with_reducible refine(one_any _ _).mono ?_);rintro e w' ⟨rfl,rfl⟩)
   | (go_at_call 217;first|(refine(Ball_good H.out _).mono ?_;rintro e w1 ⟨rfl,hb1⟩;have A0:=bl5 hb1 (w.heap.size))|(refine(Ball_bad H.out _).mono ?_;rintro e w1 ⟨rfl,hb1⟩;have A0:=bl5 hb1 (w.heap.size))))
  refine bodyPost_ret (by simp[results,Tryz.results214,go_sem, *];first|done|rfl) rfl ?_
  exact⟨rfl,blw⟩
set_option maxHeartbeats 1000000 in
theorem OfFrac_out (num den:Int) (w:World) (h:¬(-1000000000≤num∧num≤1000000000∧1≤den∧den≤1000000000)) :
  Calls Tryz.prog 214 #[.int .i64 num,.int .i64 den] w fun e w'=>e = .returned (out (.bad 2))∧Below w.heap.size w w':=by
 unfold out
 by_cases c1 : -1000000000≤num∧num≤1000000000
 ·have a1:(decide ((-1000000000:Int)≤num)&&decide (num≤1000000000))=true:=by simp[c1.1,c1.2]
  have a2:(decide ((1:Int)≤den)&&decide (den≤1000000000))=false:=by rw[Bool.eq_false_iff];simp;omega
  clear c1 h
  go_enter Tryz.func214,Tryz.ntmps214
  go_wp2_with (first
   | (go_at_call 164;(with_reducible refine(small_any _ _ _ (by omega) (by omega)).mono ?_);rintro e w' ⟨rfl,rfl⟩;rw[a1])
   | (go_at_call 170;(with_reducible refine(within_any _ _ _ _).mono ?_);rintro e w' ⟨rfl,rfl⟩;rw[a2]))
  refine bodyPost_ret (by simp[results,Tryz.results214,go_sem, *];first|done|rfl) rfl ?_
  exact⟨rfl,blw⟩
 ·have a1:(decide ((-1000000000:Int)≤num)&&decide (num≤1000000000))=false:=by rw[Bool.eq_false_iff];simp;omega
  clear c1 h
  go_enter Tryz.func214,Tryz.ntmps214
  go_wp2_with (first
   | (go_at_call 164;(with_reducible refine(small_any _ _ _ (by omega) (by omega)).mono ?_);rintro e w' ⟨rfl,rfl⟩;rw[a1]))
  refine bodyPost_ret (by simp[results,Tryz.results214,go_sem, *];first|done|rfl) rfl ?_
  exact⟨rfl,blw⟩
theorem OfFrac_any (num den:Int) (w:World) :
  Calls Tryz.prog 214 #[.int .i64 num,.int .i64 den] w fun e w'=>e = .returned (out (ofFracM num den))∧Below w.heap.size w w':=by
 unfold ofFracM
 by_cases h : -1000000000≤num∧num≤1000000000∧1≤den∧den≤1000000000
 ·rw[if_pos h];exact OfFrac_in num den w h.1 h.2.1 h.2.2.1 h.2.2.2
 ·rw[if_neg h];exact OfFrac_out num den w h
end Go.Proofs.YticobgianbecpaaGreatDoor
namespace Go.Proofs.YticobgianbecpaaGreatDoor
open Go.RowKit
set_option maxHeartbeats 1000000 in
theorem rOfRange_any (lo hi:Int) (w:World) :
  Calls Tryz.prog 179 #[.agg #[.int .i64 lo,.int .i64 hi]] w fun e w'=>e = .returned (outR (ofRangeM lo hi))∧Below w.heap.size w w':=by
 unfold ofRangeM
 by_cases c1 : -67108864≤lo∧lo≤67108864
 ·have a1:(decide ((-67108864:Int)≤lo)&&decide (lo≤67108864))=true:=by simp[c1.1,c1.2]
  by_cases c2 : -67108864≤hi∧hi≤67108864
  ·have a2:(decide ((-67108864:Int)≤hi)&&decide (hi≤67108864))=true:=by simp[c2.1,c2.2]
   rw[if_neg (by simp;omega)]
   by_cases c3:hi<lo
   ·rw[if_pos c3]
    unfold outR
    go_enter Tryz.func179,Tryz.ntmps179
    go_wp2_with (go_at_call 228;(with_reducible refine(isPart_any _ _).mono ?_);rintro e w' ⟨rfl,rfl⟩;(first|rw[a1]|rw[a2]))
    refine bodyPost_ret (by simp[results,Tryz.results179,go_sem, *];first|done|rfl) rfl ?_
    exact⟨rfl,blw⟩
   ·rw[if_neg c3]
    unfold outR
    have hg:fin ((lo+hi)/2) 0 (hi-(lo+hi)/2) 0 = .good ((lo+hi)/2) 0 (hi-(lo+hi)/2):=by
     rw[fin_zero,if_pos]
     unfold Right Fits
     omega
    have H:=Lib.hid hg
    clear hg
    go_enter Tryz.func179,Tryz.ntmps179
    go_wp2_with (first
     | (go_at_call 228;(with_reducible refine(isPart_any _ _).mono ?_);rintro e w' ⟨rfl,rfl⟩;(first|rw[a1]|rw[a2]))
     | (go_at_call 58;(with_reducible refine(bFloor_any _ _ _ (by omega) (by omega) (by omega) (by omega)).mono ?_);rintro e w' ⟨rfl,rfl⟩)
     | (go_at_call 178;(refine(Checked_good H.out _).mono ?_);rintro e w1 ⟨rfl,hb1⟩;have A0:=bl5 hb1 (w.heap.size);have A1:=bl5 hb1 (w.heap.size+1)))
    refine bodyPost_ret (by simp[results,Tryz.results179,go_sem, *];first|done|rfl) rfl ?_
    exact⟨rfl,blw⟩
  ·have a2:(decide ((-67108864:Int)≤hi)&&decide (hi≤67108864))=false:=by rw[Bool.eq_false_iff];simp;omega
   rw[if_pos (by simp;omega)]
   unfold outR
   clear c1 c2
   go_enter Tryz.func179,Tryz.ntmps179
   go_wp2_with (go_at_call 228;(with_reducible refine(isPart_any _ _).mono ?_);rintro e w' ⟨rfl,rfl⟩;(first|rw[a1]|rw[a2]))
   refine bodyPost_ret (by simp[results,Tryz.results179,go_sem, *];first|done|rfl) rfl ?_
   exact⟨rfl,blw⟩
 ·have a1:(decide ((-67108864:Int)≤lo)&&decide (lo≤67108864))=false:=by rw[Bool.eq_false_iff];simp;omega
  rw[if_pos (by simp;omega)]
  unfold outR
  clear c1
  go_enter Tryz.func179,Tryz.ntmps179
  go_wp2_with (go_at_call 228;(with_reducible refine(isPart_any _ _).mono ?_);rintro e w' ⟨rfl,rfl⟩;rw[a1])
  refine bodyPost_ret (by simp[results,Tryz.results179,go_sem, *];first|done|rfl) rfl ?_
  exact⟨rfl,blw⟩
end Go.Proofs.YticobgianbecpaaGreatDoor
namespace Go.Proofs.YticobgianbecpaaGreatDoor
open Go.RowKit
set_option maxHeartbeats 1000000 in
theorem bScaledRounded_big (n b:Int) (w:World) (h1 : -4611686018427387904≤n) (h2:n≤4611686018427387904) (b1:1≤b) (b2:b≤1152921504606846976) (hq:n/b < -268435456∨268435456<n/b) :
  Calls Tryz.prog 177 #[.int .i64 n,.int .i64 b] w fun e w'=>e = .returned (.tuple #[.int .i64 ((2*n+b)/(2*b)),.bool (n%b != 0)])∧w'=w:=by
 have hQ : -4611686018427387904≤n/b∧n/b≤4611686018427387904:=⟨ediv_lo b1 h1 (by omega),ediv_hi b1 h2 (by omega)⟩
 have hx:=round_eq (n:=n) (b:=b) (by omega)
 have hr0:=Int.emod_nonneg n (show b≠0 by omega)
 have hr1:=Int.emod_lt_of_pos n (show 0<b by omega)
 have C:=Lib.hid (fun w=>bScaled_big n b w h1 h2 b1 b2 hq)
 rw[hx]
 clear hx hq
 generalize n/b=Q at *
 generalize n%b=R at *
 by_cases h:b-R≤R
 ·have hz:(R != 0)=true:=by simp;omega
  go_enter Tryz.func177,Tryz.ntmps177
  go_wp2_with fail
  refine(C.out _).mono ?_
  rintro e w' ⟨rfl,rfl⟩
  go_wp2
  go_ret2
  exact⟨ret_pair_ib (by first|rfl|rw[if_pos h]) (by first|rfl|(simp;done)|(simp;omega)),rfl⟩
 ·by_cases hz:R=0
  ·subst hz
   go_enter Tryz.func177,Tryz.ntmps177
   go_wp2_with fail
   refine(C.out _).mono ?_
   rintro e w' ⟨rfl,rfl⟩
   go_wp2
   go_ret2
   exact⟨ret_pair_ib (by first|rfl|rw[if_neg (by omega)]) (by simp),rfl⟩
  ·have hz':(R != 0)=true:=by simpa using hz
   go_enter Tryz.func177,Tryz.ntmps177
   go_wp2_with fail
   refine(C.out _).mono ?_
   rintro e w' ⟨rfl,rfl⟩
   go_wp2
   go_ret2
   exact⟨ret_pair_ib (by first|rfl|rw[if_neg (by omega)]) (by first|rfl|(simp;done)|(simp;omega)),rfl⟩
theorem round_near {n b:Int} (hb:0<b):n/b≤(2*n+b)/(2*b)∧(2*n+b)/(2*b)≤n/b+1:=by
 rw[round_eq hb]
 split<;>omega
theorem scaled_great {n b:Int} (hb:0<b) (hq:n/b < -268435456∨268435456<n/b):srq n b < -67108864∨67108864<srq n b:=by
 have h:=round_near (n:=n*1048576) hb
 unfold srq
 rcases hq with hq|hq
 ·left
  have a:n < -268435456*b:=(Int.ediv_lt_iff_lt_mul hb).1 hq
  have:n*1048576/b < -268435456:=by rw[Int.ediv_lt_iff_lt_mul hb];omega
  omega
 ·right
  have a:268435457*b≤n:=(Int.le_ediv_iff_mul_le hb).1 (by omega)
  have:268435457≤n*1048576/b:=by rw[Int.le_ediv_iff_mul_le hb];omega
  omega
theorem fin_great {x r:Int} (h:x < -67108864∨67108864<x):fin x 0 r 0 = .bad 8:=by
 rw[fin_zero,if_neg]
 unfold Right Fits
 omega
set_option maxHeartbeats 1000000 in
theorem rOfFrac_any (num den:Int) (w:World) :
  Calls Tryz.prog 226 #[.int .i64 num,.int .i64 den] w fun e w'=>e = .returned (outR (ofFracM num den))∧Below w.heap.size w w':=by
 unfold ofFracM
 by_cases c1 : -1000000000≤num∧num≤1000000000
 ·have a1:(decide ((-1000000000:Int)≤num)&&decide (num≤1000000000))=true:=by simp[c1.1,c1.2]
  by_cases c2:1≤den∧den≤1000000000
  ·have a2:(decide ((1:Int)≤den)&&decide (den≤1000000000))=true:=by simp[c2.1,c2.2]
   rw[if_pos ⟨c1.1,c1.2,c2.1,c2.2⟩]
   by_cases c3 : -268435456≤num/den∧num/den≤268435456
   ·have C:=Lib.hid (fun w=>bScaledRounded_any num den w (by omega) (by omega) c2.1 (by omega) c3.1 c3.2)
    obtain⟨res,hres⟩:∃res,fin (srq num den) 0 (b1 (num*1048576%den != 0)) 0=res:=⟨_,rfl⟩
    rw[hres]
    have H:=Lib.hid hres
    clear hres c3
    unfold outR
    generalize srq num den=X at *
    cases res
    all_goals
     go_enter Tryz.func226,Tryz.ntmps226
     go_wp2_with (first
      | (go_at_call 14;(with_reducible refine(bWithin_any _ _ _ _).mono ?_);rintro e w' ⟨rfl,rfl⟩;(first|rw[a1]|rw[a2]))
      | (go_at_call 177;refine(C.out _).mono ?_;rintro e w' ⟨rfl,rfl⟩)
      | (go_at_call 202;(with_reducible refine(more_any _ _).mono ?_);rintro e w' ⟨rfl,rfl⟩)
      | (go_at_call 178;first|(refine(Checked_good H.out _).mono ?_;rintro e w1 ⟨rfl,hb1⟩;have A0:=bl5 hb1 (w.heap.size))|(refine(Checked_bad H.out _).mono ?_;rintro e w1 ⟨rfl,hb1⟩;have A0:=bl5 hb1 (w.heap.size))))
     refine bodyPost_ret (by simp[results,Tryz.results226,go_sem, *];first|done|rfl) rfl ?_
     exact⟨rfl,blw⟩
   ·have hq:num/den < -268435456∨268435456<num/den:=by omega
    have C:=Lib.hid (fun w=>bScaledRounded_big num den w (by omega) (by omega) c2.1 (by omega) hq)
    have hn:=round_near (n:=num) (b:=den) (by omega)
    rw[fin_great (scaled_great (by omega) hq)]
    have H:=Lib.hid (fin_great (x:=(2*num+den)/(2*den)) (r:=b1 (num%den != 0)) (by omega))
    clear c3 hq hn
    unfold outR
    go_enter Tryz.func226,Tryz.ntmps226
    go_wp2_with (first
     | (go_at_call 14;(with_reducible refine(bWithin_any _ _ _ _).mono ?_);rintro e w' ⟨rfl,rfl⟩;(first|rw[a1]|rw[a2]))
     | (go_at_call 177;refine(C.out _).mono ?_;rintro e w' ⟨rfl,rfl⟩)
     | (go_at_call 202;(with_reducible refine(more_any _ _).mono ?_);rintro e w' ⟨rfl,rfl⟩)
     | (go_at_call 178;(refine(Checked_bad H.out _).mono ?_;rintro e w1 ⟨rfl,hb1⟩;have A0:=bl5 hb1 (w.heap.size))))
    refine bodyPost_ret (by simp[results,Tryz.results226,go_sem, *];first|done|rfl) rfl ?_
    exact⟨rfl,blw⟩
  ·have a2:(decide ((1:Int)≤den)&&decide (den≤1000000000))=false:=by rw[Bool.eq_false_iff];simp;omega
   rw[if_neg (by omega)]
   unfold outR
   clear c1 c2
   go_enter Tryz.func226,Tryz.ntmps226
   go_wp2_with (go_at_call 14;(with_reducible refine(bWithin_any _ _ _ _).mono ?_);rintro e w' ⟨rfl,rfl⟩;(first|rw[a1]|rw[a2]))
   refine bodyPost_ret (by simp[results,Tryz.results226,go_sem, *];first|done|rfl) rfl ?_
   exact⟨rfl,blw⟩
 ·have a1:(decide ((-1000000000:Int)≤num)&&decide (num≤1000000000))=false:=by rw[Bool.eq_false_iff];simp;omega
  rw[if_neg (by omega)]
  unfold outR
  clear c1
  go_enter Tryz.func226,Tryz.ntmps226
  go_wp2_with (go_at_call 14;(with_reducible refine(bWithin_any _ _ _ _).mono ?_);rintro e w' ⟨rfl,rfl⟩;rw[a1])
  refine bodyPost_ret (by simp[results,Tryz.results226,go_sem, *];first|done|rfl) rfl ?_
  exact⟨rfl,blw⟩
end Go.Proofs.YticobgianbecpaaGreatDoor
