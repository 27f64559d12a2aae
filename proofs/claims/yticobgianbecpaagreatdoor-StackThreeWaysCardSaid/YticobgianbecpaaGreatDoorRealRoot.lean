/- The walks of the ball of the roots of a range. -/
import Derived.Test.YticobgianbecpaaGreatDoorKRoots
import Derived.Test.YticobgianbecpaaGreatDoorKCalm
namespace Go.Proofs.YticobgianbecpaaGreatDoor
open Go.RowKit
theorem ends_nums {lo hi:Int} (h1:0≤lo) (h2:lo≤hi) (h3:hi≤67108864) :
  0≤rt (lo*1048576)∧rt (lo*1048576)≤rtu (hi*1048576)∧rtu (hi*1048576)≤8388609:=by
 have t0:=rt_nonneg (lo*1048576)
 have t2:rt (hi*1048576)≤8388608:=rt_le (by omega) (by omega) (by omega) (by omega)
 have t3:=rtu_bounds (n:=hi*1048576)
 have t4:rt (lo*1048576)≤rt (hi*1048576):=by
  have a:=rt_spec (n:=lo*1048576) (by omega) (by omega)
  have b:=rt_spec (n:=hi*1048576) (by omega) (by omega)
  have c:=rt_nonneg (hi*1048576)
  have:rt (lo*1048576)<rt (hi*1048576)+1:=lt_of_sq (by omega) (by omega)
  omega
 omega
@[irreducible] def rrM (lo hi:Int):Int:=(rt (lo*1048576)+rtu (hi*1048576))/2
@[irreducible] def rrR (lo hi:Int):Int:=rtu (hi*1048576)-(rt (lo*1048576)+rtu (hi*1048576))/2
theorem rr_bd {lo hi:Int} (h1:0≤lo) (h2:lo≤hi) (h3:hi≤67108864):0≤rrM lo hi∧rrM lo hi≤8388609∧0≤rrR lo hi∧rrR lo hi≤8388609:=by
 have:=ends_nums h1 h2 h3
 unfold rrM rrR
 omega
def realM (lo hi:Int):Res :=
 if ¬(-67108864≤lo∧lo≤67108864 ∧ -67108864≤hi∧hi≤67108864)then .bad 2 else if hi<lo then .bad 10
 else if 0≤lo then .good (rrM lo hi) 0 (rrR lo hi)else if hi≤0 then .good 0 (rrM (-hi) (-lo)) (rrR (-hi) (-lo))else .bad 14
theorem RealRoot_pos' (lo hi:Int) (w:World) (h1:0≤lo) (h2:lo≤hi) (h3:hi≤67108864) :
  Calls Tryz.prog 107 #[.agg #[.int .i64 lo,.int .i64 hi]] w fun e w'=>e = .returned (.tuple #[.agg #[.complex .f64 (fl (rrM lo hi)) (fl 0),.int .i64 (rrR lo hi)],.int .i64 0])∧Below w.heap.size w w':=by
 unfold rrM rrR
 exact RealRoot_pos lo hi w h1 h2 h3
set_option maxHeartbeats 2000000 in
theorem RealRoot_err (lo hi q:Int) (w:World) (hq:(q != 0)=true)
  (co:∀w,Calls Tryz.prog 160 #[.agg #[.int .i64 lo,.int .i64 hi]] w fun e w'=>e = .returned (.tuple #[.agg #[.complex .f64 0 0,.int .i64 0],.int .i64 q])∧Below w.heap.size w w') :
  Calls Tryz.prog 107 #[.agg #[.int .i64 lo,.int .i64 hi]] w fun e w'=>e = .returned (.tuple #[.agg #[.complex .f64 0 0,.int .i64 0],.int .i64 q])∧Below w.heap.size w w':=by
 have CO:=Lib.hid co
 clear co
 go_enter Tryz.func107,Tryz.ntmps107
 go_wp2_with fail
 refine(CO.out _).mono ?_
 rintro e w1 ⟨rfl,A0⟩
 have A1:=A0.size
 (try simp at A1)
 have A2:=bl5 A0 (w.heap.size+1)
 go_wp2
 refine bodyPost_ret (by simp[results,Tryz.results107,go_sem, *];first|done|rfl) rfl ?_
 exact⟨rfl,blw⟩
set_option maxHeartbeats 2000000 in
theorem RealRoot_clash (lo hi:Int) (w:World) (h1 : -67108864≤lo) (h2:lo<0) (h3:0<hi) (h4:hi≤67108864) :
  Calls Tryz.prog 107 #[.agg #[.int .i64 lo,.int .i64 hi]] w fun e w'=>e = .returned (.tuple #[.agg #[.complex .f64 0 0,.int .i64 0],.int .i64 14])∧Below w.heap.size w w':=by
 have CO:=Lib.hid (fun w=>OfRange_yes lo hi w h1 (by omega) h4)
 go_enter Tryz.func107,Tryz.ntmps107
 go_wp2_with fail
 refine(CO.out _).mono ?_
 rintro e w1 ⟨rfl,A0⟩
 have A1:=A0.size
 (try simp at A1)
 have A5:=bl5 A0 (w.heap.size)
 have A2:=bl5 A0 (w.heap.size+1)
 go_wp2
 refine bodyPost_ret (by simp[results,Tryz.results107,go_sem, *];first|done|rfl) rfl ?_
 exact⟨rfl,blw⟩
theorem qu_one:qu 1=1:=by decide
set_option maxHeartbeats 2000000 in
theorem RealRoot_neg (lo hi:Int) (w:World) (h1 : -67108864≤lo) (h2:lo<0) (h3:lo≤hi) (h4:hi≤0) :
  Calls Tryz.prog 107 #[.agg #[.int .i64 lo,.int .i64 hi]] w fun e w'=>e = .returned (.tuple #[.agg #[.complex .f64 (fl 0) (fl (rrM (-hi) (-lo))),.int .i64 (rrR (-hi) (-lo))],.int .i64 0])∧Below w.heap.size w w':=by
 have CO:=Lib.hid (fun w=>OfRange_yes lo hi w h1 (by omega) (by omega))
 have CR:=Lib.hid (fun w=>RealRoot_pos' (-hi) (-lo) w (by omega) (by omega) (by omega))
 have bd:=rr_bd (lo := -hi) (hi := -lo) (by omega) (by omega) (by omega)
 generalize rrM (-hi) (-lo)=M at *
 generalize rrR (-hi) (-lo)=R at *
 have ct:=fun w=>Turned_any M 0 R 1 w (by unfold Flo;omega) (by unfold Flo;omega)
 have hr:Right M 0 R:=by unfold Right Fits;omega
 have hr2:Right 0 M R:=by unfold Right Fits;omega
 rw[show turnedM M 0 R 1 = .good 0 M R from by
  unfold turnedM onOne
  rw[if_pos hr,if_pos (by unfold inPart;omega),qu_one,(tu1 M 0).1,(tu1 M 0).2,fin_zero,show(-0:Int)=0 from rfl,if_pos hr2]]at ct
 have CT:Hid (∀w,Calls Tryz.prog 159 #[.agg #[.complex .f64 (fl M) (fl 0),.int .i64 R],.int .i64 1] w fun e w'=>e = .returned (.tuple #[.agg #[.complex .f64 (fl 0) (fl M),.int .i64 R],.int .i64 0])∧Below w.heap.size w w'):=Lib.hid ct
 clear ct hr hr2
 go_enter Tryz.func107,Tryz.ntmps107
 go_wp2_with fail
 refine(CO.out _).mono ?_
 rintro e w1 ⟨rfl,A0⟩
 have A1:=A0.size
 (try simp at A1)
 have A5:=bl5 A0 (w.heap.size)
 have A2:=bl5 A0 (w.heap.size+1)
 go_wp2_with fail
 refine(CR.out _).mono ?_
 rintro e w2 ⟨rfl,A3⟩
 have A7:=A3.size
 (try simp at A7)
 have A8:=bl5 A3 (w.heap.size+1)
 go_wp2_with fail
 refine(CT.out _).mono ?_
 rintro e w3 ⟨rfl,A6⟩
 have Aa:=A6.size
 (try simp at Aa)
 have Ab:=bl5 A6 (w.heap.size+1)
 go_wp2
 refine bodyPost_ret (by simp[results,Tryz.results107,go_sem, *];first|done|rfl) rfl ?_
 exact⟨rfl,blw⟩
theorem RealRoot_any (lo hi:Int) (w:World) :
  Calls Tryz.prog 107 #[.agg #[.int .i64 lo,.int .i64 hi]] w fun e w'=>e = .returned (out (realM lo hi))∧Below w.heap.size w w':=by
 unfold realM
 by_cases c1 : -67108864≤lo∧lo≤67108864 ∧ -67108864≤hi∧hi≤67108864
 ·rw[if_neg (by simpa using c1)]
  by_cases c2:hi<lo
  ·rw[if_pos c2];exact RealRoot_err lo hi 10 w rfl (fun w=>OfRange_order lo hi w c1.2.1 c2 c1.2.2.1)
  ·rw[if_neg c2]
   by_cases c3:0≤lo
   ·rw[if_pos c3];exact RealRoot_pos' lo hi w c3 (by omega) c1.2.2.2
   ·rw[if_neg c3]
    by_cases c4:hi≤0
    ·rw[if_pos c4];exact RealRoot_neg lo hi w c1.1 (by omega) (by omega) c4
    ·rw[if_neg c4];exact RealRoot_clash lo hi w c1.1 (by omega) (by omega) c1.2.2.2
 ·rw[if_pos c1];exact RealRoot_err lo hi 2 w rfl (fun w=>OfRange_bad lo hi w c1)
set_option maxHeartbeats 2000000 in
theorem rRealRoot_err (lo hi q:Int) (w:World) (hq:(q != 0)=true)
  (co:∀w,Calls Tryz.prog 179 #[.agg #[.int .i64 lo,.int .i64 hi]] w fun e w'=>e = .returned (.tuple #[.agg #[.int .i64 0,.int .i64 0,.int .i64 0],.int .i64 q])∧Below w.heap.size w w') :
  Calls Tryz.prog 121 #[.agg #[.int .i64 lo,.int .i64 hi]] w fun e w'=>e = .returned (.tuple #[.agg #[.int .i64 0,.int .i64 0,.int .i64 0],.int .i64 q])∧Below w.heap.size w w':=by
 have CO:=Lib.hid co
 clear co
 go_enter Tryz.func121,Tryz.ntmps121
 go_wp2_with fail
 refine(CO.out _).mono ?_
 rintro e w1 ⟨rfl,A0⟩
 have A1:=A0.size
 (try simp at A1)
 have A2:=bl5 A0 (w.heap.size+1)
 go_wp2
 refine bodyPost_ret (by simp[results,Tryz.results121,go_sem, *];first|done|rfl) rfl ?_
 exact⟨rfl,blw⟩
theorem rOfRange_yes (lo hi:Int) (w:World) (h1 : -67108864≤lo) (h2:lo≤hi) (h3:hi≤67108864) :
  Calls Tryz.prog 179 #[.agg #[.int .i64 lo,.int .i64 hi]] w fun e w'=>e = .returned (.tuple #[.agg #[.int .i64 ((lo+hi)/2),.int .i64 0,.int .i64 (hi-(lo+hi)/2)],.int .i64 0])∧Below w.heap.size w w':=by
 have:=rOfRange_any lo hi w
 rw[show ofRangeM lo hi = .good ((lo+hi)/2) 0 (hi-(lo+hi)/2)from by unfold ofRangeM;rw[if_neg (by simp;omega),if_neg (by omega)]]at this
 exact this
set_option maxHeartbeats 2000000 in
theorem rRealRoot_clash (lo hi:Int) (w:World) (h1 : -67108864≤lo) (h2:lo<0) (h3:0<hi) (h4:hi≤67108864) :
  Calls Tryz.prog 121 #[.agg #[.int .i64 lo,.int .i64 hi]] w fun e w'=>e = .returned (.tuple #[.agg #[.int .i64 0,.int .i64 0,.int .i64 0],.int .i64 14])∧Below w.heap.size w w':=by
 have CO:=Lib.hid (fun w=>rOfRange_yes lo hi w h1 (by omega) h4)
 go_enter Tryz.func121,Tryz.ntmps121
 go_wp2_with fail
 refine(CO.out _).mono ?_
 rintro e w1 ⟨rfl,A0⟩
 have A1:=A0.size
 (try simp at A1)
 have A5:=bl5 A0 (w.heap.size)
 have A2:=bl5 A0 (w.heap.size+1)
 go_wp2
 refine bodyPost_ret (by simp[results,Tryz.results121,go_sem, *];first|done|rfl) rfl ?_
 exact⟨rfl,blw⟩
set_option maxHeartbeats 2000000 in
theorem rRealRoot_pos (lo hi:Int) (w:World) (h1:0≤lo) (h2:lo≤hi) (h3:hi≤67108864) :
  Calls Tryz.prog 121 #[.agg #[.int .i64 lo,.int .i64 hi]] w fun e w'=>e = .returned (.tuple #[.agg #[.int .i64 (rrM lo hi),.int .i64 0,.int .i64 (rrR lo hi)],.int .i64 0])∧Below w.heap.size w w':=by
 have CO:=Lib.hid (fun w=>rOfRange_yes lo hi w (by omega) h2 h3)
 have en:=ends_nums h1 h2 h3
 have ci:=fun w=>rOfRange_yes (rt (lo*1048576)) (rtu (hi*1048576)) w (by omega) (by omega) (by omega)
 rw[show(rt (lo*1048576)+rtu (hi*1048576))/2=rrM lo hi from by unfold rrM;rfl]at ci
 rw[show rtu (hi*1048576)-rrM lo hi=rrR lo hi from by unfold rrM rrR;rfl]at ci
 have cr:=fun w=>bRoot_any (lo*1048576) w (by omega) (by omega)
 have cu:=fun w=>bRootUp_any (hi*1048576) w (by omega) (by omega)
 generalize rt (lo*1048576)=A at *
 generalize rtu (hi*1048576)=B at *
 generalize rrM lo hi=M at *
 generalize rrR lo hi=R at *
 have CI:=Lib.hid ci
 have CR:=Lib.hid cr
 have CU:=Lib.hid cu
 clear ci cr cu
 have e1:IntKind.i64.wrap (lo*1048576)=lo*1048576:=IntWalk.i64_in _ (by omega)
 have e2:IntKind.i64.wrap (hi*1048576)=hi*1048576:=IntWalk.i64_in _ (by omega)
 go_enter Tryz.func121,Tryz.ntmps121
 go_wp2_with fail
 refine(CO.out _).mono ?_
 rintro e w1 ⟨rfl,A0⟩
 have A1:=A0.size
 (try simp at A1)
 have A5:=bl5 A0 (w.heap.size)
 have A2:=bl5 A0 (w.heap.size+1)
 go_wp2_with fail
 refine calm 12 (by kernel_rfl) (by kernel_rfl) fun hG => ?_
 have Ac:=hG (w.heap.size) lto
 have A9:=hG (w.heap.size+1) lto
 clear hG
 simp only[List.take_succ_cons,List.take_zero,List.drop_succ_cons,List.drop_zero]
 repeat (go_big_quiet_step (first|(go_at_call 176;with_reducible exact calm_same CR.out)|(go_at_call 180;with_reducible exact calm_same CU.out)|(go_at_call 179;with_reducible exact calm_call CI.out)))
 refine wpQuiet_nil ?_
 intro w2 A3
 clear Ac A9
 have A7:=A3.size
 (try simp at A7)
 have Ad:=bl5 A3 (w.heap.size)
 have A8:=bl5 A3 (w.heap.size+1)
 go_wp2
 refine bodyPost_ret (by simp[results,Tryz.results121,go_sem, *];first|done|rfl) rfl ?_
 exact⟨rfl,blw⟩
set_option maxHeartbeats 2000000 in
theorem rRealRoot_neg (lo hi:Int) (w:World) (h1 : -67108864≤lo) (h2:lo<0) (h3:lo≤hi) (h4:hi≤0) :
  Calls Tryz.prog 121 #[.agg #[.int .i64 lo,.int .i64 hi]] w fun e w'=>e = .returned (.tuple #[.agg #[.int .i64 0,.int .i64 (rrM (-hi) (-lo)),.int .i64 (rrR (-hi) (-lo))],.int .i64 0])∧Below w.heap.size w w':=by
 have CO:=Lib.hid (fun w=>rOfRange_yes lo hi w h1 (by omega) (by omega))
 have en:=ends_nums (lo := -hi) (hi := -lo) (by omega) (by omega) (by omega)
 have bd:=rr_bd (lo := -hi) (hi := -lo) (by omega) (by omega) (by omega)
 have ci:=fun w=>rOfRange_yes (rt (-hi*1048576)) (rtu (-lo*1048576)) w (by omega) (by omega) (by omega)
 rw[show(rt (-hi*1048576)+rtu (-lo*1048576))/2=rrM (-hi) (-lo)from by unfold rrM;rfl]at ci
 rw[show rtu (-lo*1048576)-rrM (-hi) (-lo)=rrR (-hi) (-lo)from by unfold rrM rrR;rfl]at ci
 have cr:=fun w=>bRoot_any (-hi*1048576) w (by omega) (by omega)
 have cu:=fun w=>bRootUp_any (-lo*1048576) w (by omega) (by omega)
 generalize rt (-hi*1048576)=A at *
 generalize rtu (-lo*1048576)=B at *
 generalize rrM (-hi) (-lo)=M at *
 generalize rrR (-hi) (-lo)=R at *
 have ct:=fun w=>rTurned_any M 0 R 1 w ⟨by omega,by omega⟩ ⟨by omega,by omega⟩ (by unfold inPart;omega)
 rw[qu_one,(tu1 M 0).1,(tu1 M 0).2,show(-0:Int)=0 from rfl]at ct
 have CI:=Lib.hid ci
 have CR:=Lib.hid cr
 have CU:=Lib.hid cu
 have CT:=Lib.hid ct
 clear ci cr cu ct
 have e1:IntKind.i64.wrap (-hi*1048576) = -hi*1048576:=IntWalk.i64_in _ (by omega)
 have e2:IntKind.i64.wrap (-lo*1048576) = -lo*1048576:=IntWalk.i64_in _ (by omega)
 have e3:IntKind.i64.wrap (-hi) = -hi:=IntWalk.i64_in _ (by omega)
 have e4:IntKind.i64.wrap (-lo) = -lo:=IntWalk.i64_in _ (by omega)
 go_enter Tryz.func121,Tryz.ntmps121
 go_wp2_with fail
 refine(CO.out _).mono ?_
 rintro e w1 ⟨rfl,A0⟩
 have A1:=A0.size
 (try simp at A1)
 have A5:=bl5 A0 (w.heap.size)
 have A2:=bl5 A0 (w.heap.size+1)
 go_wp2_with fail
 refine calm_late 15 14 #[.int .i64 0,.int .i64 0,.int .i64 0] 65 _ _ _ rfl rfl rfl (by kernel_rfl) (by kernel_rfl) (by kernel_rfl) (fun _ _ _ _ h=>h) (fun a w=>by kernel_rfl) fun hG => ?_
 have Ac:=hG (w.heap.size) lto
 have A9:=hG (w.heap.size+1) lto
 clear hG
 simp only[List.take_succ_cons,List.take_zero,List.drop_succ_cons,List.drop_zero]
 repeat (refine wpCalm_step (fun K hK => ?_);go_simp;first|(refine hK _ ?_;clear hK K)|(apply Exists.intro;refine⟨fun _ => ?_,hK _ ?_⟩;(first|(go_at_call 176;with_reducible exact cal_same CR.out)|(go_at_call 180;with_reducible exact cal_same CU.out)|(go_at_call 179;with_reducible exact cal_call CI.out));clear hK K))
 refine wpCalm_nil ?_
 intro B1 w2 hN
 obtain⟨A3,A4,Ai,Aj,Ak⟩:=hN
 (try simp at A4)
 clear Ac A9
 have A7:=A3.size
 (try simp at A7)
 have Ad:=bl5 A3 (w.heap.size)
 have A8:=bl5 A3 (w.heap.size+1)
 have Ah:¬B1=w.heap.size:=by first|omega|(simp at A4;omega)
 have Ag:¬w.heap.size=B1:=by first|omega|(simp at A4;omega)
 have Af:¬B1=w.heap.size+1:=by first|omega|(simp at A4;omega)
 have Ae:¬w.heap.size+1=B1:=by first|omega|(simp at A4;omega)
 go_wp2_with fail
 refine(CT.out _).mono ?_
 rintro e w3 ⟨rfl,A6⟩
 have Aa:=A6.size
 (try simp at Aa)
 have Ab:=bl5 A6 (w.heap.size+1)
 go_wp2
 refine bodyPost_ret (by simp[results,Tryz.results121,go_sem, *];first|done|rfl) rfl ?_
 exact⟨rfl,blw⟩
theorem rRealRoot_any (lo hi:Int) (w:World) :
  Calls Tryz.prog 121 #[.agg #[.int .i64 lo,.int .i64 hi]] w fun e w'=>e = .returned (outR (realM lo hi))∧Below w.heap.size w w':=by
 have ro:=fun w=>rOfRange_any lo hi w
 unfold realM
 by_cases c1 : -67108864≤lo∧lo≤67108864 ∧ -67108864≤hi∧hi≤67108864
 ·rw[if_neg (by simpa using c1)]
  by_cases c2:hi<lo
  ·rw[if_pos c2]
   rw[show ofRangeM lo hi = .bad 10 from by unfold ofRangeM;rw[if_neg (by simpa using c1),if_pos c2]]at ro
   exact rRealRoot_err lo hi 10 w rfl ro
  ·rw[if_neg c2]
   by_cases c3:0≤lo
   ·rw[if_pos c3];exact rRealRoot_pos lo hi w c3 (by omega) c1.2.2.2
   ·rw[if_neg c3]
    by_cases c4:hi≤0
    ·rw[if_pos c4];exact rRealRoot_neg lo hi w c1.1 (by omega) (by omega) c4
    ·rw[if_neg c4];exact rRealRoot_clash lo hi w c1.1 (by omega) (by omega) c1.2.2.2
 ·rw[if_pos c1]
  rw[show ofRangeM lo hi = .bad 2 from by unfold ofRangeM;rw[if_pos c1]]at ro
  exact rRealRoot_err lo hi 2 w rfl ro
end Go.Proofs.YticobgianbecpaaGreatDoor
