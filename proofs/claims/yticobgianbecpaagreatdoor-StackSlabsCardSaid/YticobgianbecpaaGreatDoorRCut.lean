/- Shares: the reference's small parts. -/
import Derived.Test.YticobgianbecpaaGreatDoorKShare
import Derived.Test.YticobgianbecpaaGreatDoorKSlab
import Derived.Test.YticobgianbecpaaGreatDoorKRa
namespace Go.Proofs.YticobgianbecpaaGreatDoor
open Go Go.Sort Go.RowKit Go.Shelf
set_option maxHeartbeats 2000000 in
theorem rcut2_any (a b:Int) (w:World):Calls Tryz.prog 57 #[.agg #[.int .i64 a,.int .i64 b]] w fun E w'=>E = .returned (.agg #[.int .i64 (cutO a),.int .i64 (cutO b)])∧Below w.heap.size w w':=by
 unfold cutO
 go_enter Tryz.func57,Tryz.ntmps57
 by_cases ha:1048576<a
 all_goals by_cases hb:1048576<b
 all_goals go_wp2
 all_goals (with_reducible show bodyPost _ _ _ _ _ _);refine bodyPost_ret (by simp[results,Tryz.results57,go_sem, *];first|done|rfl) rfl ?_
 all_goals exact⟨by simp[*]<;>omega,blw⟩
set_option maxHeartbeats 4000000 in
theorem rrest_any (a b c d:Int) (w:World) (a0:0≤a∧a≤1048576) (b0:0≤b∧b≤1048576) (c0:0≤c∧c≤1048576) (d0:0≤d∧d≤1048576) :
  Calls Tryz.prog 61 #[.agg #[.int .i64 a,.int .i64 b],.agg #[.int .i64 c,.int .i64 d]] w fun E w'=>E = .returned (.agg #[.int .i64 (pos (1048576-b-d)),.int .i64 (pos (1048576-a-c))])∧Below w.heap.size w w':=by
 unfold pos
 have k1:wrap64 (1048576-b)=1048576-b:=IntWalk.wrap64_in _ ⟨by omega,by omega⟩
 have k2:wrap64 (1048576-b-d)=1048576-b-d:=IntWalk.wrap64_in _ ⟨by omega,by omega⟩
 have k3:wrap64 (1048576-a)=1048576-a:=IntWalk.wrap64_in _ ⟨by omega,by omega⟩
 have k4:wrap64 (1048576-a-c)=1048576-a-c:=IntWalk.wrap64_in _ ⟨by omega,by omega⟩
 go_enter Tryz.func61,Tryz.ntmps61
 by_cases ha:1048576-b-d<0
 all_goals by_cases hb:1048576-a-c<0
 all_goals go_wp2
 all_goals (with_reducible show bodyPost _ _ _ _ _ _);refine bodyPost_ret (by simp[results,Tryz.results61,go_sem, *];first|done|rfl) rfl ?_
 all_goals exact⟨by simp[*]<;>omega,blw⟩
theorem up_cdv {a b:Int} (h:1≤b):up a b = -(-a/b):=(cdv_up h).symm
set_option maxHeartbeats 4000000 in
theorem rtimes_any (a b c d:Int) (ha:Share a) (hb:Share b) (hc:Share c) (hd:Share d) (w:World) :
  Calls Tryz.prog 67 #[.agg #[.int .i64 a,.int .i64 b],.agg #[.int .i64 c,.int .i64 d]] w fun E w'=>E = .returned (.agg #[.int .i64 (mulD a c),.int .i64 (mulU b d)])∧Below w.heap.size w w':=by
 have k1:=sh_wrap ha hc
 have k2:=sh_wrap hb hd
 have v1:=sh_wrapi ha hc
 have v2:=sh_wrapi hb hd
 have D1:=Lib.hid (fun w=>bfloor_dn (a*c) 1048576 w (by have:=(sh_mul ha hc).1;generalize a*c=x at *;omega) (by have:=(sh_mul ha hc).2;generalize a*c=x at *;omega) (by decide) (by decide))
 have U1:=Lib.hid (fun w=>bceil_up (b*d) 1048576 w (by have:=(sh_mul hb hd).1;generalize b*d=x at *;omega) (by have:=(sh_mul hb hd).2;generalize b*d=x at *;omega) (by decide) (by decide))
 clear ha hb hc hd
 unfold mulD mulU
 go_enter Tryz.func67,Tryz.ntmps67
 go_wp2_with fail
 refine calm 13 (by kernel_rfl) (by kernel_rfl) fun hG => ?_
 have A6:=hG (w.heap.size) lto
 have A1:=hG (w.heap.size+1) lto
 have A2:=hG (w.heap.size+1+1) lto
 clear hG
 simp only[List.take_succ_cons,List.take_zero,List.drop_succ_cons,List.drop_zero]
 repeat (go_big_quiet_step (first|(go_at_call 58;with_reducible exact calm_same D1.out)|(go_at_call 59;with_reducible exact calm_same U1.out)))
 refine wpQuiet_nil ?_
 intro w1 A0
 clear A6 A1 A2
 have A3:=A0.size
 (try simp at A3)
 have A7:=bl5 A0 (w.heap.size)
 have A4:=bl5 A0 (w.heap.size+1)
 have A5:=bl5 A0 (w.heap.size+1+1)
 go_wp2
 (with_reducible show bodyPost _ _ _ _ _ _);refine bodyPost_ret (by simp[results,Tryz.results67,go_sem, *];first|done|rfl) rfl ?_
 exact⟨rfl,blw⟩
set_option maxHeartbeats 4000000 in
theorem rthrough_any (a b c d:Int) (ha:Share a) (hb:Share b) (hc:Share c) (hd:Share d) (c1:c<1048576) (d1:d<1048576) (w:World) :
  Calls Tryz.prog 68 #[.agg #[.int .i64 a,.int .i64 b],.agg #[.int .i64 c,.int .i64 d]] w fun E w'=>E = .returned (.agg #[.int .i64 (geoD a c),.int .i64 (geoU b d)])∧Below w.heap.size w w':=by
 obtain⟨k1,v1,p1,q1⟩:=sh_up ha
 obtain⟨k2,v2,p2,q2⟩:=sh_up hb
 obtain⟨k3,v3⟩:=sh_left hc
 obtain⟨k4,v4⟩:=sh_left hd
 have D1:=Lib.hid (fun w=>bfloor_dn (a*1048576) (1048576-c) w (by omega) q1 (by omega) (by have:=hc.1;omega))
 have U1:=Lib.hid (fun w=>bceil_up (b*1048576) (1048576-d) w (by omega) q2 (by omega) (by have:=hd.1;omega))
 clear ha hb hc hd p1 q1 p2 q2 c1 d1
 unfold geoD geoU
 go_enter Tryz.func68,Tryz.ntmps68
 go_wp2_with fail
 refine calm 15 (by kernel_rfl) (by kernel_rfl) fun hG => ?_
 have A6:=hG (w.heap.size) lto
 have A1:=hG (w.heap.size+1) lto
 have A2:=hG (w.heap.size+1+1) lto
 clear hG
 simp only[List.take_succ_cons,List.take_zero,List.drop_succ_cons,List.drop_zero]
 repeat (go_big_quiet_step (first|(go_at_call 58;with_reducible exact calm_same D1.out)|(go_at_call 59;with_reducible exact calm_same U1.out)))
 refine wpQuiet_nil ?_
 intro w1 A0
 clear A6 A1 A2
 have A3:=A0.size
 (try simp at A3)
 have A7:=bl5 A0 (w.heap.size)
 have A4:=bl5 A0 (w.heap.size+1)
 have A5:=bl5 A0 (w.heap.size+1+1)
 go_wp2
 (with_reducible show bodyPost _ _ _ _ _ _);refine bodyPost_ret (by simp[results,Tryz.results68,go_sem, *];first|done|rfl) rfl ?_
 exact⟨rfl,blw⟩
end Go.Proofs.YticobgianbecpaaGreatDoor
