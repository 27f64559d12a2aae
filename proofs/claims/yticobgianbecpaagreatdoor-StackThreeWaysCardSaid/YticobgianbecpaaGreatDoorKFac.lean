/- Joined: FacA FacB FacC FacD. -/
import Derived.Test.YticobgianbecpaaGreatDoorKMed
namespace Go.Proofs.YticobgianbecpaaGreatDoor
open Go Go.Sort Go.RowKit
set_option maxHeartbeats 8000000 in
theorem factor_A (B:Nat) (e:Int) (A:Ask) (m n t0 t1 t2 t3:Int) (hp:FacPre n t0 t1 t2 t3) (q:Int) (TU:TGives m B e A t0 t1 t2 t3 q)
  (hq:¬q=0):LGives 74 #[.pointer (some ⟨B,0,none⟩),.int .i64 m,.int .i64 n] B e A (.bad q):=by
 intro w Ad
 obtain⟨z0,z1,z2,z3⟩:=quad_bad q
 rw[z0,z1,z2,z3,fl_zero]
 clear z0 z1 z2 z3
 have hq1:(q != 0)=true:=by simpa using hq
 obtain⟨a0,a1,b0,b1,c0,c1,d1⟩:=hp
 have X0:IntKind.i64.wrap (n*t0)=n*t0:=IntWalk.i64_in _ ⟨by omega,by omega⟩
 have X1:IntKind.i64.wrap (n*t1)=n*t1:=IntWalk.i64_in _ ⟨by omega,by omega⟩
 have X2:IntKind.i64.wrap (n*t2)=n*t2:=IntWalk.i64_in _ ⟨by omega,by omega⟩
 have X3:IntKind.i64.wrap (n*t3)=n*t3:=IntWalk.i64_in _ ⟨by omega,by omega⟩
 have TU:=Lib.hid TU
 clear hq
 have Af:=Ad.st
 have Bb:=tr_refl Af
 obtain⟨B1,B2,B3,B4,B5,B6,B7,B8,B9⟩:=Ad.cells
 have Bm:=Af.cell
 have Bn:=Af.free
 have Bu:=Af.lt
 have Bw:=own5 Bu
 go_enter Tryz.func74,Tryz.ntmps74
 go_wp2_with fail
 refine(TU.out _ (Lt.turn Ad (Trn.kp Bb kpw))).mono ?_
 rintro e w1 ⟨rfl,Ab⟩
 have Ak:=Ab.size_le
 (try simp at Ak)
 have Ae:=tn5 Ab (w.heap.size)
 obtain⟨Av,Bg,Bj,Bo,Br,Ay⟩:=pkx Ad Bb kpw Ab
 (try clear Bm Bn B1 B2 B3 B4 B5 B6 B7 B8 B9 Bw)
 go_wp2_with fail
 refine wp_loop_rounds 3 ?_
 rw[rounds_succ]
 go_wp2_with fail
 refine calm 15 (by kernel_rfl) (by kernel_rfl) fun hG => ?_
 have Aa:=hG (w.heap.size) lto
 have A7:=hG (w1.heap.size) lto
 have A1:=hG B lto
 clear hG
 simp only[List.take_succ_cons,List.take_zero,List.drop_succ_cons,List.drop_zero]
 repeat (go_big_quiet_step (first|fail))
 refine wpQuiet_nil ?_
 intro w2 A5
 clear Aa A7 A1
 have Al:=A5.size
 (try simp at Al)
 have A3:=bl5 A5 (w.heap.size)
 have A0:=bl5 A5 (w1.heap.size)
 obtain⟨Aw,Bh,Bk,Bp,B0,Az⟩:=pkb Ad Av kpw A5
 (try clear Ay)
 go_wp2_with fail
 rw[rounds_succ]
 replace A0:=cas5 A0 [.int .i64 t0,.int .i64 t1,.int .i64 t2,.int .i64 t3]
 replace A3:=cas5 A3 [.complex .f64 0 0,.int .i64 0]
 simp only[CAf,Nat.reduceAdd,and_true]at A0 A3
 (try clear Ae)
 go_wp2_with fail
 refine calm 15 (by kernel_rfl) (by kernel_rfl) fun hG => ?_
 have Aa:=hG (w.heap.size) lto
 have A7:=hG (w1.heap.size) lto
 have A1:=hG B lto
 clear hG
 simp only[List.take_succ_cons,List.take_zero,List.drop_succ_cons,List.drop_zero]
 repeat (go_big_quiet_step (first|fail))
 refine wpQuiet_nil ?_
 intro w3 A6
 clear Aa A7 A1
 have Am:=A6.size
 (try simp at Am)
 have A4:=bl5 A6 (w.heap.size)
 have A2:=bl5 A6 (w1.heap.size)
 obtain⟨An,Bi,Bl,Bq,Bs,Ba⟩:=pkb Ad Aw kpw A6
 (try clear Az B0)
 go_wp2_with fail
 rw[rounds_succ]
 replace A2:=cas5 A2 [.int .i64 (n*t0),.int .i64 (n*t1),.int .i64 t2,.int .i64 t3]
 replace A4:=cas5 A4 [.complex .f64 0 0,.int .i64 0]
 simp only[CAf,Nat.reduceAdd,and_true]at A2 A4
 (try clear A3 A0)
 repeat' (first|go_values|go_skip|go_guarded|go_step|go_upon|(simp only[];go_simp))
 refine bodyPost_ret (by simp[results,Tryz.results74,go_sem, *];first|done|rfl) rfl ?_
 exact⟨rfl,trw⟩
end Go.Proofs.YticobgianbecpaaGreatDoor
namespace Go.Proofs.YticobgianbecpaaGreatDoor
open Go Go.Sort Go.RowKit
set_option maxHeartbeats 8000000 in
theorem factor_B (B:Nat) (e:Int) (A:Ask) (m n t0 t1 t2 t3:Int) (hp:FacPre n t0 t1 t2 t3) (TU:TGives m B e A t0 t1 t2 t3 0)
  (hc:n*t1-n*t0<1048576) (hC:¬(arcM (n*t0) (n*t1)).q=0):LGives 74 #[.pointer (some ⟨B,0,none⟩),.int .i64 m,.int .i64 n] B e A (.bad (arcM (n*t0) (n*t1)).q):=by
 intro w Ad
 have OP:=fun w=>Arc_any (n*t0) (n*t1) w
 simp only[out_quad]at OP
 have OQ:=Lib.hid OP
 clear OP
 generalize arcM (n*t0) (n*t1)=C at *
 obtain⟨z0,z1,z2,z3⟩:=quad_bad C.q
 rw[z0,z1,z2,z3,fl_zero]
 clear z0 z1 z2 z3
 have hq1:(C.q != 0)=true:=by simpa using hC
 clear hC
 obtain⟨a0,a1,b0,b1,c0,c1,d1⟩:=hp
 have X0:IntKind.i64.wrap (n*t0)=n*t0:=IntWalk.i64_in _ ⟨by omega,by omega⟩
 have X1:IntKind.i64.wrap (n*t1)=n*t1:=IntWalk.i64_in _ ⟨by omega,by omega⟩
 have X2:IntKind.i64.wrap (n*t2)=n*t2:=IntWalk.i64_in _ ⟨by omega,by omega⟩
 have X3:IntKind.i64.wrap (n*t3)=n*t3:=IntWalk.i64_in _ ⟨by omega,by omega⟩
 have X4:IntKind.i64.wrap (n*t1-n*t0)=n*t1-n*t0:=IntWalk.i64_in _ ⟨by omega,by omega⟩
 have TU:=Lib.hid TU
 clear a0 a1 b0 b1
 have Af:=Ad.st
 have Bb:=tr_refl Af
 obtain⟨B1,B2,B3,B4,B5,B6,B7,B8,B9⟩:=Ad.cells
 have Bm:=Af.cell
 have Bn:=Af.free
 have Bu:=Af.lt
 have Bw:=own5 Bu
 go_enter Tryz.func74,Tryz.ntmps74
 go_wp2_with fail
 refine(TU.out _ (Lt.turn Ad (Trn.kp Bb kpw))).mono ?_
 rintro e w1 ⟨rfl,Ab⟩
 have Ak:=Ab.size_le
 (try simp at Ak)
 have Ae:=tn5 Ab (w.heap.size)
 obtain⟨Av,Bg,Bj,Bo,Br,Ay⟩:=pkx Ad Bb kpw Ab
 (try clear Bm Bn B1 B2 B3 B4 B5 B6 B7 B8 B9 Bw)
 go_wp2_with fail
 refine wp_loop_rounds 3 ?_
 rw[rounds_succ]
 go_wp2_with fail
 refine calm 15 (by kernel_rfl) (by kernel_rfl) fun hG => ?_
 have Aa:=hG (w.heap.size) lto
 have A7:=hG (w1.heap.size) lto
 have A1:=hG B lto
 clear hG
 simp only[List.take_succ_cons,List.take_zero,List.drop_succ_cons,List.drop_zero]
 repeat (go_big_quiet_step (first|fail))
 refine wpQuiet_nil ?_
 intro w2 A5
 clear Aa A7 A1
 have Al:=A5.size
 (try simp at Al)
 have A3:=bl5 A5 (w.heap.size)
 have A0:=bl5 A5 (w1.heap.size)
 obtain⟨Aw,Bh,Bk,Bp,B0,Az⟩:=pkb Ad Av kpw A5
 (try clear Ay)
 go_wp2_with fail
 rw[rounds_succ]
 replace A0:=cas5 A0 [.int .i64 t0,.int .i64 t1,.int .i64 t2,.int .i64 t3]
 replace A3:=cas5 A3 [.complex .f64 0 0,.int .i64 0]
 simp only[CAf,Nat.reduceAdd,and_true]at A0 A3
 (try clear Ae)
 go_wp2_with fail
 refine calm 15 (by kernel_rfl) (by kernel_rfl) fun hG => ?_
 have Aa:=hG (w.heap.size) lto
 have A7:=hG (w1.heap.size) lto
 have A1:=hG B lto
 clear hG
 simp only[List.take_succ_cons,List.take_zero,List.drop_succ_cons,List.drop_zero]
 repeat (go_big_quiet_step (first|fail))
 refine wpQuiet_nil ?_
 intro w3 A6
 clear Aa A7 A1
 have Am:=A6.size
 (try simp at Am)
 have A4:=bl5 A6 (w.heap.size)
 have A2:=bl5 A6 (w1.heap.size)
 obtain⟨An,Bi,Bl,Bq,Bs,Ba⟩:=pkb Ad Aw kpw A6
 (try clear Az B0)
 go_wp2_with fail
 rw[rounds_succ]
 replace A2:=cas5 A2 [.int .i64 (n*t0),.int .i64 (n*t1),.int .i64 t2,.int .i64 t3]
 replace A4:=cas5 A4 [.complex .f64 0 0,.int .i64 0]
 simp only[CAf,Nat.reduceAdd,and_true]at A2 A4
 (try clear A3 A0)
 go_wp2_with fail
 refine turn (fun i=>i==8) 9 (by kernel_rfl) (by kernel_rfl) (St.cell (St.turn Af (Trn.kp An kpw))) fun hG => ?_
 have Aa:=fun o=>hG (w.heap.size) lto o (ne_addr (by omega))
 have A7:=fun o=>hG (w1.heap.size) lto o (ne_addr (by omega))
 have Aj:=fun o=>hG (w3.heap.size) lto o (ne_addr (by omega))
 have A1:=fun o=>hG B lto (o+1) ne_off
 clear hG
 simp only[List.take_succ_cons,List.take_zero,List.drop_succ_cons,List.drop_zero]
 repeat (first|(refine wpTurn_pure rfl (fun K hK => ?_);go_simp;first|(refine hK _ _ ?_;clear hK K)|(apply Exists.intro;refine⟨fun _ _ => ?_,hK _ _ ?_⟩;(first|(go_at_call 125;with_reducible exact cal_call OQ.out));clear hK K))|(refine wpTurn_eff rfl (fun K hK => ?_);go_simp;(first|(with_reducible refine⟨_,_,fun _=>tur_st (St.turn Af (Trn.kp An kpw)) (fun w h=>done_any B _ C.q C.a C.b C.c w h),?_⟩));refine hK _ _ ?_;clear hK K))
 refine wpTurn_nil ?_
 intro w4 Ac
 clear A1 Aa A7 Aj
 have As:=Ac.size_le
 (try simp at As)
 have A8:=tn5 Ac (w.heap.size)
 have Ah:=tn5 Ac (w1.heap.size)
 have A9:=tn5 Ac (w3.heap.size)
 obtain⟨Ax,Bx,By,Bz,Bt,Bf⟩:=pkx Ad An kpw Ac
 (try clear Ba)
 replace A8:=cas5 A8 [.complex .f64 0 0,.int .i64 0]
 simp only[CAf,Nat.reduceAdd,and_true]at A8
 (try clear A4)
 repeat' (first|go_values|go_skip|go_guarded|go_step|go_upon|(simp only[];go_simp))
 refine bodyPost_ret (by simp[results,Tryz.results74,go_sem, *];first|done|rfl) rfl ?_
 exact⟨rfl,trw⟩
end Go.Proofs.YticobgianbecpaaGreatDoor
namespace Go.Proofs.YticobgianbecpaaGreatDoor
open Go Go.Sort Go.RowKit
set_option maxHeartbeats 8000000 in
theorem factor_C (B:Nat) (e:Int) (A:Ask) (m n t0 t1 t2 t3:Int) (hp:FacPre n t0 t1 t2 t3) (TU:TGives m B e A t0 t1 t2 t3 0)
  (hc:n*t1-n*t0<1048576) (C R T:Res) (hC:Is C (arcM (n*t0) (n*t1))) (hq:C.q=0) (hR:Is R (after 0 (ofRangeM (fLo (n*t3)) (fHi (n*t2))))) (hT:Is T (after R.q (ti C R))):LGives 74 #[.pointer (some ⟨B,0,none⟩),.int .i64 m,.int .i64 n] B e A T:=by
 intro w Ad
 have OP:=fun w=>Arc_any (n*t0) (n*t1) w
 rw[← hC.out]at OP
 simp only[out_quad,hq]at OP
 have OQ:=Lib.hid OP
 have fC:Fine C:=hC.fine (fine_arc _ _)
 have fR:Fine R:=hR.fine (fine_after _ (fine_range _ _))
 clear OP hq
 obtain⟨a0,a1,b0,b1,c0,c1,d1⟩:=hp
 have X0:IntKind.i64.wrap (n*t0)=n*t0:=IntWalk.i64_in _ ⟨by omega,by omega⟩
 have X1:IntKind.i64.wrap (n*t1)=n*t1:=IntWalk.i64_in _ ⟨by omega,by omega⟩
 have X2:IntKind.i64.wrap (n*t2)=n*t2:=IntWalk.i64_in _ ⟨by omega,by omega⟩
 have X3:IntKind.i64.wrap (n*t3)=n*t3:=IntWalk.i64_in _ ⟨by omega,by omega⟩
 have X4:IntKind.i64.wrap (n*t1-n*t0)=n*t1-n*t0:=IntWalk.i64_in _ ⟨by omega,by omega⟩
 have FA:=Lib.hid (fun w=>Fading_any (n*t2) (n*t3) w c0 c1 d1)
 have TU:=Lib.hid TU
 clear a0 a1 b0 b1
 have Af:=Ad.st
 have Bb:=tr_refl Af
 obtain⟨B1,B2,B3,B4,B5,B6,B7,B8,B9⟩:=Ad.cells
 have Bm:=Af.cell
 have Bn:=Af.free
 have Bu:=Af.lt
 have Bw:=own5 Bu
 go_enter Tryz.func74,Tryz.ntmps74
 go_wp2_with fail
 refine(TU.out _ (Lt.turn Ad (Trn.kp Bb kpw))).mono ?_
 rintro e w1 ⟨rfl,Ab⟩
 have Ak:=Ab.size_le
 (try simp at Ak)
 have Ae:=tn5 Ab (w.heap.size)
 obtain⟨Av,Bg,Bj,Bo,Br,Ay⟩:=pkx Ad Bb kpw Ab
 (try clear Bm Bn B1 B2 B3 B4 B5 B6 B7 B8 B9)
 go_wp2_with fail
 refine wp_loop_rounds 3 ?_
 rw[rounds_succ]
 go_wp2_with fail
 refine calm 15 (by kernel_rfl) (by kernel_rfl) fun hG => ?_
 have Aa:=hG (w.heap.size) lto
 have A7:=hG (w1.heap.size) lto
 have A1:=hG B lto
 clear hG
 simp only[List.take_succ_cons,List.take_zero,List.drop_succ_cons,List.drop_zero]
 repeat (go_big_quiet_step (first|fail))
 refine wpQuiet_nil ?_
 intro w2 A5
 clear Aa A7 A1
 have Al:=A5.size
 (try simp at Al)
 have A3:=bl5 A5 (w.heap.size)
 have A0:=bl5 A5 (w1.heap.size)
 obtain⟨Aw,Bh,Bk,Bp,B0,Az⟩:=pkb Ad Av kpw A5
 (try clear Ay)
 go_wp2_with fail
 rw[rounds_succ]
 replace A0:=cas5 A0 [.int .i64 t0,.int .i64 t1,.int .i64 t2,.int .i64 t3]
 replace A3:=cas5 A3 [.complex .f64 0 0,.int .i64 0]
 simp only[CAf,Nat.reduceAdd,and_true]at A0 A3
 (try clear Ae)
 go_wp2_with fail
 refine calm 15 (by kernel_rfl) (by kernel_rfl) fun hG => ?_
 have Aa:=hG (w.heap.size) lto
 have A7:=hG (w1.heap.size) lto
 have A1:=hG B lto
 clear hG
 simp only[List.take_succ_cons,List.take_zero,List.drop_succ_cons,List.drop_zero]
 repeat (go_big_quiet_step (first|fail))
 refine wpQuiet_nil ?_
 intro w3 A6
 clear Aa A7 A1
 have Am:=A6.size
 (try simp at Am)
 have A4:=bl5 A6 (w.heap.size)
 have A2:=bl5 A6 (w1.heap.size)
 obtain⟨An,Bi,Bl,Bq,Bs,Ba⟩:=pkb Ad Aw kpw A6
 (try clear Az B0)
 go_wp2_with fail
 rw[rounds_succ]
 replace A2:=cas5 A2 [.int .i64 (n*t0),.int .i64 (n*t1),.int .i64 t2,.int .i64 t3]
 replace A4:=cas5 A4 [.complex .f64 0 0,.int .i64 0]
 simp only[CAf,Nat.reduceAdd,and_true]at A2 A4
 (try clear A3 A0)
 go_wp2_with fail
 refine turn (fun i=>i==8) 9 (by kernel_rfl) (by kernel_rfl) (St.cell (St.turn Af (Trn.kp An kpw))) fun hG => ?_
 have Aa:=fun o=>hG (w.heap.size) lto o (ne_addr (by omega))
 have A7:=fun o=>hG (w1.heap.size) lto o (ne_addr (by omega))
 have Aj:=fun o=>hG (w3.heap.size) lto o (ne_addr (by omega))
 have A1:=fun o=>hG B lto (o+1) ne_off
 clear hG
 simp only[List.take_succ_cons,List.take_zero,List.drop_succ_cons,List.drop_zero]
 repeat (first|(refine wpTurn_pure rfl (fun K hK => ?_);go_simp;first|(refine hK _ _ ?_;clear hK K)|(apply Exists.intro;refine⟨fun _ _ => ?_,hK _ _ ?_⟩;(first|(go_at_call 125;with_reducible exact cal_call OQ.out));clear hK K))|(refine wpTurn_eff rfl (fun K hK => ?_);go_simp;(first|(with_reducible refine⟨_,_,fun _=>tur_st (St.turn Af (Trn.kp An kpw)) (fun w h=>done_any B _ 0 C.a C.b C.c w h),?_⟩));refine hK _ _ ?_;clear hK K))
 refine wpTurn_nil ?_
 intro w4 Ac
 clear A1 Aa A7 Aj
 have As:=Ac.size_le
 (try simp at As)
 have A8:=tn5 Ac (w.heap.size)
 have Ah:=tn5 Ac (w1.heap.size)
 have A9:=tn5 Ac (w3.heap.size)
 obtain⟨Ax,Bx,By,Bz,Bt,Bf⟩:=pkx Ad An kpw Ac
 (try clear Ba)
 replace Ah:=cas5 Ah [.int .i64 (n*t0),.int .i64 (n*t1),.int .i64 (n*t2),.int .i64 (n*t3)]
 replace A8:=cas5 A8 [.complex .f64 0 0,.int .i64 0]
 replace A9:=cas5 A9 [.complex .f64 0 0,.int .i64 1048576]
 simp only[CAf,Nat.reduceAdd,and_true]at Ah A8 A9
 (try clear A4 A2)
 go_wp2_with fail
 refine(FA.out _).mono ?_
 rintro e w5 ⟨rfl,Ar⟩
 have Bd:=Ar.size
 (try simp at Bd)
 have Ao:=bl5 Ar (w.heap.size)
 have Ai:=bl5 Ar (w3.heap.size)
 have Ap:=bl5 Ar (w4.heap.size)
 obtain⟨Bc,C6,C7,C8,C3,C2⟩:=pkb Ad Ax kpw Ar
 (try clear Bf)
 replace Ao:=cas5 Ao [.complex .f64 0 0,.int .i64 0]
 replace Ai:=cas5 Ai [.complex .f64 (fl C.a) (fl C.b),.int .i64 C.c]
 replace Ap:=cas5 Ap [.int .i64 0,.int .i64 0]
 simp only[CAf,Nat.reduceAdd,and_true]at Ao Ai Ap
 (try clear A8 A9)
 go_wp2_with fail
 refine turn (fun i=>i==11||i==12) 13 (by kernel_rfl) (by kernel_rfl) (St.cell (St.turn Af (Trn.kp Bc kpw))) fun hG => ?_
 have Aa:=fun o=>hG (w.heap.size) lto o (ne_addr (by omega))
 have Aj:=fun o=>hG (w3.heap.size) lto o (ne_addr (by omega))
 have C0:=fun o=>hG (w4.heap.size) lto o (ne_addr (by omega))
 have A1:=fun o=>hG B lto (o+1) ne_off
 clear hG
 simp only[List.take_succ_cons,List.take_zero,List.drop_succ_cons,List.drop_zero]
 repeat (first|(refine wpTurn_pure rfl (fun K hK => ?_);go_simp;first|(refine hK _ _ ?_;clear hK K)|(apply Exists.intro;refine⟨fun _ _ => ?_,hK _ _ ?_⟩;(first|fail);clear hK K))|(refine wpTurn_eff rfl (fun K hK => ?_);go_simp;(first|(first|with_reducible refine⟨_,_,fun _=>tur_st (St.turn Af (Trn.kp Bc kpw)) (fun w h=>(c_real B 0 (fLo (n*t3)) (fHi (n*t2))).to hR w h),?_⟩|with_reducible refine⟨_,_,fun _=>tur_st (St.turn Af (Trn.kp Bc kpw)) (fun w h=>(c_times B R.q C R fC fR).to hT w h),?_⟩));refine hK _ _ ?_;clear hK K))
 refine wpTurn_nil ?_
 intro w6 Au
 clear A1 Aa Aj C0
 have C1:=Au.size_le
 (try simp at C1)
 have C9:=tn5 Au (w.heap.size)
 have C4:=tn5 Au (w3.heap.size)
 have C5:=tn5 Au (w4.heap.size)
 obtain⟨Cc,Ca,Cb,Cd,Cf,Ce⟩:=pkx Ad Bc kpw Au
 (try clear C2 C3)
 repeat' (first|go_values|go_skip|go_guarded|go_step|go_upon|(simp only[];go_simp))
 refine bodyPost_ret (by simp[results,Tryz.results74,go_sem, *];first|done|rfl) rfl ?_
 exact⟨rfl,trw⟩
end Go.Proofs.YticobgianbecpaaGreatDoor
namespace Go.Proofs.YticobgianbecpaaGreatDoor
open Go Go.Sort Go.RowKit
set_option maxHeartbeats 8000000 in
theorem factor_D (B:Nat) (e:Int) (A:Ask) (m n t0 t1 t2 t3:Int) (hp:FacPre n t0 t1 t2 t3) (TU:TGives m B e A t0 t1 t2 t3 0)
  (hc:¬n*t1-n*t0<1048576) (R T:Res) (hR:Is R (after 0 (ofRangeM (fLo (n*t3)) (fHi (n*t2))))) (hT:Is T (after R.q (ti (.good 0 0 1048576) R))):LGives 74 #[.pointer (some ⟨B,0,none⟩),.int .i64 m,.int .i64 n] B e A T:=by
 intro w Ad
 have fR:Fine R:=hR.fine (fine_after _ (fine_range _ _))
 have TP:=(c_times B R.q (.good 0 0 1048576) R fine_disc fR).to hT
 simp only[(quad_good 0 0 1048576).1,(quad_good 0 0 1048576).2.1,(quad_good 0 0 1048576).2.2.1,fl_zero]at TP
 have TP:=Lib.hid TP
 obtain⟨a0,a1,b0,b1,c0,c1,d1⟩:=hp
 have X0:IntKind.i64.wrap (n*t0)=n*t0:=IntWalk.i64_in _ ⟨by omega,by omega⟩
 have X1:IntKind.i64.wrap (n*t1)=n*t1:=IntWalk.i64_in _ ⟨by omega,by omega⟩
 have X2:IntKind.i64.wrap (n*t2)=n*t2:=IntWalk.i64_in _ ⟨by omega,by omega⟩
 have X3:IntKind.i64.wrap (n*t3)=n*t3:=IntWalk.i64_in _ ⟨by omega,by omega⟩
 have X4:IntKind.i64.wrap (n*t1-n*t0)=n*t1-n*t0:=IntWalk.i64_in _ ⟨by omega,by omega⟩
 have FA:=Lib.hid (fun w=>Fading_any (n*t2) (n*t3) w c0 c1 d1)
 have TU:=Lib.hid TU
 clear a0 a1 b0 b1
 have Af:=Ad.st
 have Bb:=tr_refl Af
 obtain⟨B1,B2,B3,B4,B5,B6,B7,B8,B9⟩:=Ad.cells
 have Bm:=Af.cell
 have Bn:=Af.free
 have Bu:=Af.lt
 have Bw:=own5 Bu
 go_enter Tryz.func74,Tryz.ntmps74
 go_wp2_with fail
 refine(TU.out _ (Lt.turn Ad (Trn.kp Bb kpw))).mono ?_
 rintro e w1 ⟨rfl,Ab⟩
 have Ak:=Ab.size_le
 (try simp at Ak)
 have Ae:=tn5 Ab (w.heap.size)
 obtain⟨Av,Bg,Bj,Bo,Br,Ay⟩:=pkx Ad Bb kpw Ab
 (try clear Bm Bn B1 B2 B3 B4 B5 B6 B7 B8 B9 Bw)
 go_wp2_with fail
 refine wp_loop_rounds 3 ?_
 rw[rounds_succ]
 go_wp2_with fail
 refine calm 15 (by kernel_rfl) (by kernel_rfl) fun hG => ?_
 have Aa:=hG (w.heap.size) lto
 have A7:=hG (w1.heap.size) lto
 have A1:=hG B lto
 clear hG
 simp only[List.take_succ_cons,List.take_zero,List.drop_succ_cons,List.drop_zero]
 repeat (go_big_quiet_step (first|fail))
 refine wpQuiet_nil ?_
 intro w2 A5
 clear Aa A7 A1
 have Al:=A5.size
 (try simp at Al)
 have A3:=bl5 A5 (w.heap.size)
 have A0:=bl5 A5 (w1.heap.size)
 obtain⟨Aw,Bh,Bk,Bp,B0,Az⟩:=pkb Ad Av kpw A5
 (try clear Ay)
 go_wp2_with fail
 rw[rounds_succ]
 replace A0:=cas5 A0 [.int .i64 t0,.int .i64 t1,.int .i64 t2,.int .i64 t3]
 replace A3:=cas5 A3 [.complex .f64 0 0,.int .i64 0]
 simp only[CAf,Nat.reduceAdd,and_true]at A0 A3
 (try clear Ae)
 go_wp2_with fail
 refine calm 15 (by kernel_rfl) (by kernel_rfl) fun hG => ?_
 have Aa:=hG (w.heap.size) lto
 have A7:=hG (w1.heap.size) lto
 have A1:=hG B lto
 clear hG
 simp only[List.take_succ_cons,List.take_zero,List.drop_succ_cons,List.drop_zero]
 repeat (go_big_quiet_step (first|fail))
 refine wpQuiet_nil ?_
 intro w3 A6
 clear Aa A7 A1
 have Am:=A6.size
 (try simp at Am)
 have A4:=bl5 A6 (w.heap.size)
 have A2:=bl5 A6 (w1.heap.size)
 obtain⟨An,Bi,Bl,Bq,Bs,Ba⟩:=pkb Ad Aw kpw A6
 (try clear Az B0)
 go_wp2_with fail
 rw[rounds_succ]
 replace A2:=cas5 A2 [.int .i64 (n*t0),.int .i64 (n*t1),.int .i64 t2,.int .i64 t3]
 replace A4:=cas5 A4 [.complex .f64 0 0,.int .i64 0]
 simp only[CAf,Nat.reduceAdd,and_true]at A2 A4
 (try clear A3 A0)
 go_wp2_with fail
 refine(FA.out _).mono ?_
 rintro e w4 ⟨rfl,Aq⟩
 have As:=Aq.size
 (try simp at As)
 have A8:=bl5 Aq (w.heap.size)
 have A9:=bl5 Aq (w3.heap.size)
 have Ag:=bl5 Aq (w3.heap.size+1)
 obtain⟨Ax,Bx,By,Bz,Bt,Bf⟩:=pkb Ad An kpw Aq
 (try clear Ba)
 replace A8:=cas5 A8 [.complex .f64 0 0,.int .i64 0]
 replace A9:=cas5 A9 [.complex .f64 0 0,.int .i64 1048576]
 replace Ag:=cas5 Ag [.int .i64 0,.int .i64 0]
 simp only[CAf,Nat.reduceAdd,and_true]at A8 A9 Ag
 (try clear A4)
 go_wp2_with fail
 refine turn (fun i=>i==11||i==12) 13 (by kernel_rfl) (by kernel_rfl) (St.cell (St.turn Af (Trn.kp Ax kpw))) fun hG => ?_
 have Aa:=fun o=>hG (w.heap.size) lto o (ne_addr (by omega))
 have Aj:=fun o=>hG (w3.heap.size) lto o (ne_addr (by omega))
 have Be:=fun o=>hG (w3.heap.size+1) lto o (ne_addr (by omega))
 have A1:=fun o=>hG B lto (o+1) ne_off
 clear hG
 simp only[List.take_succ_cons,List.take_zero,List.drop_succ_cons,List.drop_zero]
 repeat (first|(refine wpTurn_pure rfl (fun K hK => ?_);go_simp;first|(refine hK _ _ ?_;clear hK K)|(apply Exists.intro;refine⟨fun _ _ => ?_,hK _ _ ?_⟩;(first|fail);clear hK K))|(refine wpTurn_eff rfl (fun K hK => ?_);go_simp;(first|(first|with_reducible refine⟨_,_,fun _=>tur_st (St.turn Af (Trn.kp Ax kpw)) (fun w h=>(c_real B 0 (fLo (n*t3)) (fHi (n*t2))).to hR w h),?_⟩|with_reducible refine⟨_,_,fun _=>tur_st (St.turn Af (Trn.kp Ax kpw)) (fun w h=>TP.out w h),?_⟩));refine hK _ _ ?_;clear hK K))
 refine wpTurn_nil ?_
 intro w5 At
 clear A1 Aa Aj Be
 have Bd:=At.size_le
 (try simp at Bd)
 have Ao:=tn5 At (w.heap.size)
 have Ai:=tn5 At (w3.heap.size)
 have Bv:=tn5 At (w3.heap.size+1)
 obtain⟨Bc,C6,C7,C8,C3,C2⟩:=pkx Ad Ax kpw At
 (try clear Bf Bt)
 repeat' (first|go_values|go_skip|go_guarded|go_step|go_upon|(simp only[];go_simp))
 refine bodyPost_ret (by simp[results,Tryz.results74,go_sem, *];first|done|rfl) rfl ?_
 exact⟨rfl,trw⟩
end Go.Proofs.YticobgianbecpaaGreatDoor
