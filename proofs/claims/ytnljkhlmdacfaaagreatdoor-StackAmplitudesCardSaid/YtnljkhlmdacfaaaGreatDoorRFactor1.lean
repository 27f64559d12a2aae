/- The factor of a layer, once: the reference's walk. -/
import Derived.Test.YtnljkhlmdacfaaaGreatDoorKRc
namespace Go.Proofs.YtnljkhlmdacfaaaGreatDoor
open Go Go.Sort Go.RowKit
set_option maxHeartbeats 4000000 in
theorem r_fac_once (B:Nat) (e:Int) (A:Ask) (n:Int) (b:Box) (hA:AskOk A) (hM:RMed A n b) :
  RLG 120 #[.pointer (some ⟨B,0,none⟩),A.val,.int .i64 n,.bool false] B e A (facR e A b 1):=by
 intro w A8
 have PT:=fun w L=>r_parts B e A n b hA hM w L
 have hp:=fac_pre (e:=e) (n:=1) hA hM.ok (.inl rfl)
 have CI:=r_circle B e A b 1 hp
 rw[Int.one_mul,Int.one_mul,Int.one_mul,Int.one_mul]at CI
 generalize (norR e A b).q=q at *
 generalize facR e A b 1=F at *
 generalize turR 0 e A b=x0 at *
 generalize turR 1 e A b=x1 at *
 generalize turR 2 e A b=x2 at *
 generalize turR 3 e A b=x3 at *
 unfold Ask.val at PT ⊢
 have PT:=Lib.hid PT
 have CI:=Lib.hid CI
 clear hA hM hp
 have A2:=A8.st
 have Ab:=tr_refl A2
 have Ah:=A2.cell
 have Ai:=A2.free
 have An:=A2.lt
 have Ao:=own5 An
 go_enter Tryz.func120,Tryz.ntmps120
 go_wp2_with fail
 refine(PT.out _ (Rt.turn A8 (Trn.kp Ab kpw))).mono ?_
 rintro e w1 ⟨rfl,A0⟩
 have A4:=A0.size_le
 (try simp at A4)
 have A6:=tn5 A0 (w.heap.size+1)
 obtain⟨A3,Ac,Ae,Aj,Aa,A9⟩:=rkx A8 Ab kpw A0
 (try clear Ah Ai)
 go_wp2_with fail
 refine(CI.out _ (St.turn A2 (Trn.kp A3 kpw))).mono ?_
 rintro e w2 ⟨rfl,A1⟩
 have A5:=A1.size_le
 (try simp at A5)
 have A7:=tn5 A1 (w.heap.size+1)
 obtain⟨Ag,Ad,Af,Ak,Am,Al⟩:=rkx A8 A3 kpw A1
 (try clear A9 Aa)
 repeat' (first|go_values|go_skip|go_guarded|go_step|go_upon|(simp only[];go_simp))
 refine bodyPost_ret (by simp[results,Tryz.results120,go_sem, *];first|done|rfl) rfl ?_
 exact⟨rfl,trw⟩
end Go.Proofs.YtnljkhlmdacfaaaGreatDoor
