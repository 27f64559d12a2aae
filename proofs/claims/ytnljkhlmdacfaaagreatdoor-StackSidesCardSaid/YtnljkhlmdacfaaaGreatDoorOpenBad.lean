/- An ask that is wrong, opened; asks whose boxes lie elsewhere. -/
import Derived.Test.YtnljkhlmdacfaaaGreatDoorKYes
import Derived.Test.YtnljkhlmdacfaaaGreatDoorKRefl
import Derived.Deep.RegionHeld3
namespace Go.Proofs.YtnljkhlmdacfaaaGreatDoor
open Go Go.Sort Go.RowKit
theorem ask_mv_ok {A:Ask}{p:Option Addr}{c:Nat} (h:AskOk (A.mv p c)):AskOk A:=⟨h.i0,h.i1,h.s0,h.s1,h.s2,h.p0,h.w0,h.w1,h.w2,h.ls,h.len,h.oi0,h.oi1,h.ol0,h.ol1⟩
theorem ask_ok_mv {A:Ask} (h:AskOk A) (p:Option Addr) (c:Nat):AskOk (A.mv p c):=⟨h.i0,h.i1,h.s0,h.s1,h.s2,h.p0,h.w0,h.w1,h.w2,h.ls,h.len,h.oi0,h.oi1,h.ol0,h.ol1⟩
theorem len_wrap1 {n:Nat} (h:n≤40):wrap64 ((n:Int)+1)=n+1∧IntKind.i64.wrap ((n:Int)+1)=n+1:=⟨IntWalk.wrap64_in _ ⟨by omega,by omega⟩,IntWalk.i64_in _ ⟨by omega,by omega⟩⟩
set_option maxHeartbeats 2000000 in
theorem open_no (A:Ask) (w:World) (hr:Row A.pa A.ls w) :
  Calls Tryz.prog 66 #[A.val] w fun e w'=>∃n,e = .returned (.tuple #[.pointer (some ⟨n,0,none⟩),.int .i64 (ckQ A)])∧Below w.heap.size w w':=by
 have CK:=fun w hr=>CheckAsk_any A w hr
 unfold Ask.val at CK ⊢
 generalize ckI A=I at *
 generalize ckQ A=Q at *
 have CK:=Lib.hid CK
 have HR:=Lib.hid hr
 clear hr
 go_enter Tryz.func66,Tryz.ntmps66
 go_wp2_with fail
 refine(CK.out _ (HR.out.bel blw)).mono ?_
 rintro e w1 ⟨rfl,A0⟩
 have A1:=A0.size
 (try simp at A1)
 have A2:=bl5 A0 (w.heap.size)
 repeat' (first|go_values|go_skip|go_guarded|go_step|go_upon|(simp only[];go_simp))
 go_ret2
 exact⟨w1.heap.size,rfl,blw⟩
end Go.Proofs.YtnljkhlmdacfaaaGreatDoor
