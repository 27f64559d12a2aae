/- The product of two matrices: the reference's walk. -/
import Derived.Test.YtnljkhlmdacfaaaGreatDoorKRc
import Derived.Test.YtnljkhlmdacfaaaGreatDoorKThr
namespace Go.Proofs.YtnljkhlmdacfaaaGreatDoor
open Go Go.Sort Go.RowKit
set_option maxRecDepth 100000 in
set_option maxHeartbeats 16000000 in
theorem rprod_walk (B:Nat) (e:Int) (p0 p1 p2 p3 m0 m1 m2 m3 X0 Y0 O0 X1 Y1 O1 X2 Y2 O2 X3 Y3 O3:Res) (fp0:Fine p0) (fp1:Fine p1) (fp2:Fine p2) (fp3:Fine p3) (fm0:Fine m0) (fm1:Fine m1) (fm2:Fine m2) (fm3:Fine m3)
  (hX0:Is X0 (after e (ti p0 m0))) (hY0:Is Y0 (after X0.q (ti p1 m2))) (hO0:Is O0 (after Y0.q (pl X0 Y0)))
  (hX1:Is X1 (after O0.q (ti p0 m1))) (hY1:Is Y1 (after X1.q (ti p1 m3))) (hO1:Is O1 (after Y1.q (pl X1 Y1)))
  (hX2:Is X2 (after O1.q (ti p2 m0))) (hY2:Is Y2 (after X2.q (ti p3 m2))) (hO2:Is O2 (after Y2.q (pl X2 Y2)))
  (hX3:Is X3 (after O2.q (ti p2 m1))) (hY3:Is Y3 (after X3.q (ti p3 m3))) (hO3:Is O3 (after Y3.q (pl X3 Y3)))
  (A:Ask) (w:World) (At:Rt B e A w):Calls Tryz.prog 174 #[.pointer (some ⟨B,0,none⟩),.agg #[.int .i64 p0.a,.int .i64 p0.b,.int .i64 p0.c,.int .i64 p1.a,.int .i64 p1.b,.int .i64 p1.c,.int .i64 p2.a,.int .i64 p2.b,.int .i64 p2.c,.int .i64 p3.a,.int .i64 p3.b,.int .i64 p3.c],.agg #[.int .i64 m0.a,.int .i64 m0.b,.int .i64 m0.c,.int .i64 m1.a,.int .i64 m1.b,.int .i64 m1.c,.int .i64 m2.a,.int .i64 m2.b,.int .i64 m2.c,.int .i64 m3.a,.int .i64 m3.b,.int .i64 m3.c]] w fun E w' =>
   E = .returned (.agg #[.int .i64 O0.a,.int .i64 O0.b,.int .i64 O0.c,.int .i64 O1.a,.int .i64 O1.b,.int .i64 O1.c,.int .i64 O2.a,.int .i64 O2.b,.int .i64 O2.c,.int .i64 O3.a,.int .i64 O3.b,.int .i64 O3.c])∧Trn B O3.q w w':=by
 have fX0:Fine X0:=hX0.fine (fine_after _ (fine_ti _ _))
 have fY0:Fine Y0:=hY0.fine (fine_after _ (fine_ti _ _))
 have fX1:Fine X1:=hX1.fine (fine_after _ (fine_ti _ _))
 have fY1:Fine Y1:=hY1.fine (fine_after _ (fine_ti _ _))
 have fX2:Fine X2:=hX2.fine (fine_after _ (fine_ti _ _))
 have fY2:Fine Y2:=hY2.fine (fine_after _ (fine_ti _ _))
 have fX3:Fine X3:=hX3.fine (fine_after _ (fine_ti _ _))
 have fY3:Fine Y3:=hY3.fine (fine_after _ (fine_ti _ _))
 have TX0:=Lib.hid ((r_times B e p0 m0 fp0 fm0).to hX0)
 have TY0:=Lib.hid ((r_times B X0.q p1 m2 fp1 fm2).to hY0)
 have TO0:=Lib.hid ((r_plus B Y0.q X0 Y0 fX0 fY0).to hO0)
 have TX1:=Lib.hid ((r_times B O0.q p0 m1 fp0 fm1).to hX1)
 have TY1:=Lib.hid ((r_times B X1.q p1 m3 fp1 fm3).to hY1)
 have TO1:=Lib.hid ((r_plus B Y1.q X1 Y1 fX1 fY1).to hO1)
 have TX2:=Lib.hid ((r_times B O1.q p2 m0 fp2 fm0).to hX2)
 have TY2:=Lib.hid ((r_times B X2.q p3 m2 fp3 fm2).to hY2)
 have TO2:=Lib.hid ((r_plus B Y2.q X2 Y2 fX2 fY2).to hO2)
 have TX3:=Lib.hid ((r_times B O2.q p2 m1 fp2 fm1).to hX3)
 have TY3:=Lib.hid ((r_times B X3.q p3 m3 fp3 fm3).to hY3)
 have TO3:=Lib.hid ((r_plus B Y3.q X3 Y3 fX3 fY3).to hO3)
 clear hX0 hY0 hO0 fX0 fY0 hX1 hY1 hO1 fX1 fY1 hX2 hY2 hO2 fX2 fY2 hX3 hY3 hO3 fX3 fY3 fp0 fp1 fp2 fp3 fm0 fm1 fm2 fm3
 have Z0:IntKind.i64.wrap 0=0:=by decide
 have Z1:IntKind.i64.wrap 1=1:=by decide
 have Z2:IntKind.i64.wrap 2=2:=by decide
 have Z3:IntKind.i64.wrap 3=3:=by decide
 have Z4:IntKind.i64.wrap 4=4:=by decide
 have An:=At.st
 have Hg:=tr_refl An
 have K1:=An.cell
 have K2:=An.free
 have Kc:=An.lt
 have Kd:=own5 Kc
 go_enter Tryz.func174,Tryz.ntmps174
 go_wp2_with fail
 refine wp_loop_rounds 3 ?_
 rw[rounds_succ]
 go_wp2_with fail
 refine wp_loop_rounds 3 ?_
 rw[rounds_succ]
 go_wp2_with fail
 refine turn_new (fun i=>i==8) 9 #[.int .i64 0,.int .i64 0,.int .i64 0] 65 _ rfl (by kernel_rfl) (by kernel_rfl) (by first|omega|(simp;omega)) (St.cell (St.turn An (Trn.kp Hg kpw))) (fun a w=>by kernel_rfl) fun hG => ?_
 have Ah:=fun o=>hG (w.heap.size) lto o (ne_addr (by omega))
 have A1:=fun o=>hG (w.heap.size+1) lto o (ne_addr (by omega))
 have A2:=fun o=>hG (w.heap.size+1+1) lto o (ne_addr (by omega))
 have A3:=fun o=>hG (w.heap.size+1+1+1) lto o (ne_addr (by omega))
 have A0:=fun o=>hG B lto (o+1) ne_off
 clear hG
 simp only[List.take_succ_cons,List.take_zero,List.drop_succ_cons,List.drop_zero]
 repeat (first|(refine wpTurn_pure rfl (fun K hK => ?_);go_simp;first|(refine hK _ _ ?_;clear hK K)|(apply Exists.intro;refine⟨fun _ _ => ?_,hK _ _ ?_⟩;(first|fail);clear hK K))|(refine wpTurn_eff rfl (fun K hK => ?_);go_simp;(first|(with_reducible refine⟨_,_,fun _=>tur_st (St.turn An (Trn.kp Hg kpw)) (fun w h=>TX0.out w h),?_⟩));refine hK _ _ ?_;clear hK K))
 refine wpTurn_nil ?_
 intro B1 w1 hN
 obtain⟨As,Ab,Hj,J1,J9⟩:=hN
 (try simp at Ab)
 clear A0 Ah A1 A2 A3
 have Fn:=As.size_le
 (try simp at Fn)
 have Hs:=tn5 As (w.heap.size)
 have G0:=tn5 As (w.heap.size+1)
 have G1:=tn5 As (w.heap.size+1+1)
 have G2:=tn5 As (w.heap.size+1+1+1)
 obtain⟨C5,Jj,Js,K3,I5,Hr⟩:=rkx At Hg kpw As
 (try clear K1 K2)
 have H5:¬B1=w.heap.size:=by first|omega|(simp at Ab;omega)
 have Gx:¬w.heap.size=B1:=by first|omega|(simp at Ab;omega)
 have Du:¬B1=w.heap.size+1:=by first|omega|(simp at Ab;omega)
 have Cl:¬w.heap.size+1=B1:=by first|omega|(simp at Ab;omega)
 have Dv:¬B1=w.heap.size+1+1:=by first|omega|(simp at Ab;omega)
 have Cm:¬w.heap.size+1+1=B1:=by first|omega|(simp at Ab;omega)
 have Dw:¬B1=w.heap.size+1+1+1:=by first|omega|(simp at Ab;omega)
 have Cn:¬w.heap.size+1+1+1=B1:=by first|omega|(simp at Ab;omega)
 have Dt:¬B1=B:=by first|omega|(simp at Ab;omega)
 have Ck:¬B=B1:=by first|omega|(simp at Ab;omega)
 go_wp2_with fail
 refine turn_new (fun i=>i==10) 11 #[.int .i64 0,.int .i64 0,.int .i64 0] 65 _ rfl (by kernel_rfl) (by kernel_rfl) (by first|omega|(simp;omega)) (St.cell (St.turn An (Trn.kp C5 kpw))) (fun a w=>by kernel_rfl) fun hG => ?_
 have Ah:=fun o=>hG (w.heap.size) lto o (ne_addr (by omega))
 have A1:=fun o=>hG (w.heap.size+1) lto o (ne_addr (by omega))
 have A2:=fun o=>hG (w.heap.size+1+1) lto o (ne_addr (by omega))
 have A3:=fun o=>hG (w.heap.size+1+1+1) lto o (ne_addr (by omega))
 have Av:=fun o=>hG (B1) lto o (ne_addr (by omega))
 have A0:=fun o=>hG B lto (o+1) ne_off
 clear hG
 simp only[List.take_succ_cons,List.take_zero,List.drop_succ_cons,List.drop_zero]
 repeat (first|(refine wpTurn_pure rfl (fun K hK => ?_);go_simp;first|(refine hK _ _ ?_;clear hK K)|(apply Exists.intro;refine⟨fun _ _ => ?_,hK _ _ ?_⟩;(first|fail);clear hK K))|(refine wpTurn_eff rfl (fun K hK => ?_);go_simp;(first|(with_reducible refine⟨_,_,fun _=>tur_st (St.turn An (Trn.kp C5 kpw)) (fun w h=>TY0.out w h),?_⟩));refine hK _ _ ?_;clear hK K))
 refine wpTurn_nil ?_
 intro B2 w2 hN
 obtain⟨Ar,Aa,Hk,J2,Ja⟩:=hN
 (try simp at Aa)
 clear A0 Ah A1 A2 A3 Av
 have Fo:=Ar.size_le
 (try simp at Fo)
 have Hu:=tn5 Ar (w.heap.size)
 have G3:=tn5 Ar (w.heap.size+1)
 have G4:=tn5 Ar (w.heap.size+1+1)
 have G5:=tn5 Ar (w.heap.size+1+1+1)
 have G6:=tn5 Ar (B1)
 obtain⟨Fl,Jk,Jt,K4,I6,Ht⟩:=rkx At C5 kpw Ar
 (try clear Hr I5)
 have H6:¬B2=w.heap.size:=by first|omega|(simp at Aa;omega)
 have Gy:¬w.heap.size=B2:=by first|omega|(simp at Aa;omega)
 have Dy:¬B2=w.heap.size+1:=by first|omega|(simp at Aa;omega)
 have Cp:¬w.heap.size+1=B2:=by first|omega|(simp at Aa;omega)
 have Dz:¬B2=w.heap.size+1+1:=by first|omega|(simp at Aa;omega)
 have Cq:¬w.heap.size+1+1=B2:=by first|omega|(simp at Aa;omega)
 have E0:¬B2=w.heap.size+1+1+1:=by first|omega|(simp at Aa;omega)
 have Cr:¬w.heap.size+1+1+1=B2:=by first|omega|(simp at Aa;omega)
 have E1:¬B2=B1:=by first|omega|(simp at Aa;omega)
 have Cs:¬B1=B2:=by first|omega|(simp at Aa;omega)
 have Dx:¬B2=B:=by first|omega|(simp at Aa;omega)
 have Co:¬B=B2:=by first|omega|(simp at Aa;omega)
 go_wp2_with fail
 refine(TO0.out _ (St.turn An (Trn.kp Fl kpw))).mono ?_
 rintro e w3 ⟨rfl,Ai⟩
 have Fp:=Ai.size_le
 (try simp at Fp)
 have Cg:=tn5 Ai (w.heap.size)
 have Bp:=tn5 Ai (w.heap.size+1)
 have Bq:=tn5 Ai (w.heap.size+1+1)
 have Br:=tn5 Ai (w.heap.size+1+1+1)
 have G7:=tn5 Ai (B1)
 have G8:=tn5 Ai (B2)
 obtain⟨Hh,Jl,Ju,K5,I7,Hv⟩:=rkx At Fl kpw Ai
 (try clear Ht I6)
 repeat (first|(with_reducible refine wp_markr 7 ?_)|go_values|go_skip|go_guarded|go_step|go_upon|(simp only[];go_simp))
 refine wp_named (fun w4 Ap => ?_)
 have Bn:=congrArg (fun w=>w.heap.size) Ap
 (try simp at Bn)
 replace Bn:=Nat.le_of_eq Bn.symm
 obtain⟨C6,Jm,Jv,K6,I8,Hw⟩:=rkn At Hh Ap kpw
 have Ch:=cas Ap (w.heap.size) [.int .i64 p0.a,.int .i64 p0.b,.int .i64 p0.c,.int .i64 p1.a,.int .i64 p1.b,.int .i64 p1.c,.int .i64 p2.a,.int .i64 p2.b,.int .i64 p2.c,.int .i64 p3.a,.int .i64 p3.b,.int .i64 p3.c]
 have Bs:=cas Ap (w.heap.size+1) [.int .i64 m0.a,.int .i64 m0.b,.int .i64 m0.c,.int .i64 m1.a,.int .i64 m1.b,.int .i64 m1.c,.int .i64 m2.a,.int .i64 m2.b,.int .i64 m2.c,.int .i64 m3.a,.int .i64 m3.b,.int .i64 m3.c]
 have Bt:=cas Ap (w.heap.size+1+1) [.int .i64 0,.int .i64 0,.int .i64 0,.int .i64 0,.int .i64 0,.int .i64 0,.int .i64 0,.int .i64 0,.int .i64 0,.int .i64 0,.int .i64 0,.int .i64 0]
 have Bu:=cas Ap (w.heap.size+1+1+1) [.int .i64 O0.a,.int .i64 O0.b,.int .i64 O0.c,.int .i64 0,.int .i64 0,.int .i64 0,.int .i64 0,.int .i64 0,.int .i64 0,.int .i64 0,.int .i64 0,.int .i64 0]
 simp only[CAf,Nat.reduceAdd,and_true]at Ch Bs Bt Bu
 clear Ap
 (try clear Cg Bp Bq Br Hv I7)
 go_wp2_with fail
 rw[rounds_succ]
 go_wp2_with fail
 refine turn_new (fun i=>i==8) 9 #[.int .i64 0,.int .i64 0,.int .i64 0] 65 _ rfl (by kernel_rfl) (by kernel_rfl) (by first|omega|(simp;omega)) (St.cell (St.turn An (Trn.kp C6 kpw))) (fun a w=>by kernel_rfl) fun hG => ?_
 have Ah:=fun o=>hG (w.heap.size) lto o (ne_addr (by omega))
 have A1:=fun o=>hG (w.heap.size+1) lto o (ne_addr (by omega))
 have A2:=fun o=>hG (w.heap.size+1+1) lto o (ne_addr (by omega))
 have A3:=fun o=>hG (w.heap.size+1+1+1) lto o (ne_addr (by omega))
 have Av:=fun o=>hG (B1) lto o (ne_addr (by omega))
 have Aw:=fun o=>hG (B2) lto o (ne_addr (by omega))
 have A0:=fun o=>hG B lto (o+1) ne_off
 clear hG
 simp only[List.take_succ_cons,List.take_zero,List.drop_succ_cons,List.drop_zero]
 repeat (first|(refine wpTurn_pure rfl (fun K hK => ?_);go_simp;first|(refine hK _ _ ?_;clear hK K)|(apply Exists.intro;refine⟨fun _ _ => ?_,hK _ _ ?_⟩;(first|fail);clear hK K))|(refine wpTurn_eff rfl (fun K hK => ?_);go_simp;(first|(with_reducible refine⟨_,_,fun _=>tur_st (St.turn An (Trn.kp C6 kpw)) (fun w h=>TX1.out w h),?_⟩));refine hK _ _ ?_;clear hK K))
 refine wpTurn_nil ?_
 intro B3 w5 hN
 obtain⟨Aj,A4,Hl,J3,Jb⟩:=hN
 (try simp at A4)
 clear A0 Ah A1 A2 A3 Av Aw
 have Fq:=Aj.size_le
 (try simp at Fq)
 have Hy:=tn5 Aj (w.heap.size)
 have G9:=tn5 Aj (w.heap.size+1)
 have Ga:=tn5 Aj (w.heap.size+1+1)
 have Gb:=tn5 Aj (w.heap.size+1+1+1)
 have Gc:=tn5 Aj (B1)
 have Gd:=tn5 Aj (B2)
 obtain⟨C7,Jn,Jw,K7,I9,Hx⟩:=rkx At C6 kpw Aj
 (try clear Hw I8)
 have H7:¬B3=w.heap.size:=by first|omega|(simp at A4;omega)
 have Gz:¬w.heap.size=B3:=by first|omega|(simp at A4;omega)
 have E3:¬B3=w.heap.size+1:=by first|omega|(simp at A4;omega)
 have Cu:¬w.heap.size+1=B3:=by first|omega|(simp at A4;omega)
 have E4:¬B3=w.heap.size+1+1:=by first|omega|(simp at A4;omega)
 have Cv:¬w.heap.size+1+1=B3:=by first|omega|(simp at A4;omega)
 have E5:¬B3=w.heap.size+1+1+1:=by first|omega|(simp at A4;omega)
 have Cw:¬w.heap.size+1+1+1=B3:=by first|omega|(simp at A4;omega)
 have E6:¬B3=B1:=by first|omega|(simp at A4;omega)
 have Cx:¬B1=B3:=by first|omega|(simp at A4;omega)
 have E7:¬B3=B2:=by first|omega|(simp at A4;omega)
 have Cy:¬B2=B3:=by first|omega|(simp at A4;omega)
 have E2:¬B3=B:=by first|omega|(simp at A4;omega)
 have Ct:¬B=B3:=by first|omega|(simp at A4;omega)
 go_wp2_with fail
 refine turn_new (fun i=>i==10) 11 #[.int .i64 0,.int .i64 0,.int .i64 0] 65 _ rfl (by kernel_rfl) (by kernel_rfl) (by first|omega|(simp;omega)) (St.cell (St.turn An (Trn.kp C7 kpw))) (fun a w=>by kernel_rfl) fun hG => ?_
 have Ah:=fun o=>hG (w.heap.size) lto o (ne_addr (by omega))
 have A1:=fun o=>hG (w.heap.size+1) lto o (ne_addr (by omega))
 have A2:=fun o=>hG (w.heap.size+1+1) lto o (ne_addr (by omega))
 have A3:=fun o=>hG (w.heap.size+1+1+1) lto o (ne_addr (by omega))
 have Ax:=fun o=>hG (B3) lto o (ne_addr (by omega))
 have Aw:=fun o=>hG (B2) lto o (ne_addr (by omega))
 have A0:=fun o=>hG B lto (o+1) ne_off
 clear hG
 simp only[List.take_succ_cons,List.take_zero,List.drop_succ_cons,List.drop_zero]
 repeat (first|(refine wpTurn_pure rfl (fun K hK => ?_);go_simp;first|(refine hK _ _ ?_;clear hK K)|(apply Exists.intro;refine⟨fun _ _ => ?_,hK _ _ ?_⟩;(first|fail);clear hK K))|(refine wpTurn_eff rfl (fun K hK => ?_);go_simp;(first|(with_reducible refine⟨_,_,fun _=>tur_st (St.turn An (Trn.kp C7 kpw)) (fun w h=>TY1.out w h),?_⟩));refine hK _ _ ?_;clear hK K))
 refine wpTurn_nil ?_
 intro B4 w6 hN
 obtain⟨Ak,A5,Hm,J4,Jc⟩:=hN
 (try simp at A5)
 clear A0 Ah A1 A2 A3 Ax Aw
 have Fr:=Ak.size_le
 (try simp at Fr)
 have I0:=tn5 Ak (w.heap.size)
 have Ge:=tn5 Ak (w.heap.size+1)
 have Gf:=tn5 Ak (w.heap.size+1+1)
 have Gg:=tn5 Ak (w.heap.size+1+1+1)
 have Gi:=tn5 Ak (B3)
 have Gh:=tn5 Ak (B2)
 obtain⟨Fm,Jo,Jx,K8,Ia,Hz⟩:=rkx At C7 kpw Ak
 (try clear Hx I9)
 have H8:¬B4=w.heap.size:=by first|omega|(simp at A5;omega)
 have H0:¬w.heap.size=B4:=by first|omega|(simp at A5;omega)
 have E9:¬B4=w.heap.size+1:=by first|omega|(simp at A5;omega)
 have D0:¬w.heap.size+1=B4:=by first|omega|(simp at A5;omega)
 have Ea:¬B4=w.heap.size+1+1:=by first|omega|(simp at A5;omega)
 have D1:¬w.heap.size+1+1=B4:=by first|omega|(simp at A5;omega)
 have Eb:¬B4=w.heap.size+1+1+1:=by first|omega|(simp at A5;omega)
 have D2:¬w.heap.size+1+1+1=B4:=by first|omega|(simp at A5;omega)
 have Ed:¬B4=B3:=by first|omega|(simp at A5;omega)
 have D4:¬B3=B4:=by first|omega|(simp at A5;omega)
 have Ec:¬B4=B2:=by first|omega|(simp at A5;omega)
 have D3:¬B2=B4:=by first|omega|(simp at A5;omega)
 have E8:¬B4=B:=by first|omega|(simp at A5;omega)
 have Cz:¬B=B4:=by first|omega|(simp at A5;omega)
 go_wp2_with fail
 refine(TO1.out _ (St.turn An (Trn.kp Fm kpw))).mono ?_
 rintro e w7 ⟨rfl,Al⟩
 have Fs:=Al.size_le
 (try simp at Fs)
 have Ci:=tn5 Al (w.heap.size)
 have Bv:=tn5 Al (w.heap.size+1)
 have Bw:=tn5 Al (w.heap.size+1+1)
 have Bx:=tn5 Al (w.heap.size+1+1+1)
 have Gj:=tn5 Al (B3)
 have Gk:=tn5 Al (B4)
 obtain⟨Hi,Jp,Jy,K9,Ib,I1⟩:=rkx At Fm kpw Al
 (try clear Hz Ia)
 repeat (first|(with_reducible refine wp_markr 7 ?_)|go_values|go_skip|go_guarded|go_step|go_upon|(simp only[];go_simp))
 refine wp_named (fun w8 Aq => ?_)
 have Bo:=congrArg (fun w=>w.heap.size) Aq
 (try simp at Bo)
 replace Bo:=Nat.le_of_eq Bo.symm
 obtain⟨C8,Jq,Jz,Ka,Ic,I2⟩:=rkn At Hi Aq kpw
 have Cj:=cas Aq (w.heap.size) [.int .i64 p0.a,.int .i64 p0.b,.int .i64 p0.c,.int .i64 p1.a,.int .i64 p1.b,.int .i64 p1.c,.int .i64 p2.a,.int .i64 p2.b,.int .i64 p2.c,.int .i64 p3.a,.int .i64 p3.b,.int .i64 p3.c]
 have By:=cas Aq (w.heap.size+1) [.int .i64 m0.a,.int .i64 m0.b,.int .i64 m0.c,.int .i64 m1.a,.int .i64 m1.b,.int .i64 m1.c,.int .i64 m2.a,.int .i64 m2.b,.int .i64 m2.c,.int .i64 m3.a,.int .i64 m3.b,.int .i64 m3.c]
 have Bz:=cas Aq (w.heap.size+1+1) [.int .i64 0,.int .i64 0,.int .i64 0,.int .i64 0,.int .i64 0,.int .i64 0,.int .i64 0,.int .i64 0,.int .i64 0,.int .i64 0,.int .i64 0,.int .i64 0]
 have C0:=cas Aq (w.heap.size+1+1+1) [.int .i64 O0.a,.int .i64 O0.b,.int .i64 O0.c,.int .i64 O1.a,.int .i64 O1.b,.int .i64 O1.c,.int .i64 0,.int .i64 0,.int .i64 0,.int .i64 0,.int .i64 0,.int .i64 0]
 simp only[CAf,Nat.reduceAdd,and_true]at Cj By Bz C0
 clear Aq
 (try clear Ci Bv Bw Bx I1 Ib)
 go_wp2_with fail
 rw[rounds_succ]
 go_wp2_with fail
 rw[rounds_succ]
 go_wp2_with fail
 refine wp_loop_rounds 3 ?_
 rw[rounds_succ]
 go_wp2_with fail
 refine turn_new (fun i=>i==8) 9 #[.int .i64 0,.int .i64 0,.int .i64 0] 65 _ rfl (by kernel_rfl) (by kernel_rfl) (by first|omega|(simp;omega)) (St.cell (St.turn An (Trn.kp C8 kpw))) (fun a w=>by kernel_rfl) fun hG => ?_
 have Ah:=fun o=>hG (w.heap.size) lto o (ne_addr (by omega))
 have A1:=fun o=>hG (w.heap.size+1) lto o (ne_addr (by omega))
 have A2:=fun o=>hG (w.heap.size+1+1) lto o (ne_addr (by omega))
 have A3:=fun o=>hG (w.heap.size+1+1+1) lto o (ne_addr (by omega))
 have Ax:=fun o=>hG (B3) lto o (ne_addr (by omega))
 have Ay:=fun o=>hG (B4) lto o (ne_addr (by omega))
 have A0:=fun o=>hG B lto (o+1) ne_off
 clear hG
 simp only[List.take_succ_cons,List.take_zero,List.drop_succ_cons,List.drop_zero]
 repeat (first|(refine wpTurn_pure rfl (fun K hK => ?_);go_simp;first|(refine hK _ _ ?_;clear hK K)|(apply Exists.intro;refine⟨fun _ _ => ?_,hK _ _ ?_⟩;(first|fail);clear hK K))|(refine wpTurn_eff rfl (fun K hK => ?_);go_simp;(first|(with_reducible refine⟨_,_,fun _=>tur_st (St.turn An (Trn.kp C8 kpw)) (fun w h=>TX2.out w h),?_⟩));refine hK _ _ ?_;clear hK K))
 refine wpTurn_nil ?_
 intro B5 w9 hN
 obtain⟨Am,A6,Hn,J5,Jd⟩:=hN
 (try simp at A6)
 clear A0 Ah A1 A2 A3 Ax Ay
 have Ft:=Am.size_le
 (try simp at Ft)
 have I4:=tn5 Am (w.heap.size)
 have Gl:=tn5 Am (w.heap.size+1)
 have Gm:=tn5 Am (w.heap.size+1+1)
 have Gn:=tn5 Am (w.heap.size+1+1+1)
 have Gp:=tn5 Am (B3)
 have Gq:=tn5 Am (B4)
 obtain⟨C9,Jr,K0,Kb,Id,I3⟩:=rkx At C8 kpw Am
 (try clear I2 Ic)
 have H9:¬B5=w.heap.size:=by first|omega|(simp at A6;omega)
 have H1:¬w.heap.size=B5:=by first|omega|(simp at A6;omega)
 have Ef:¬B5=w.heap.size+1:=by first|omega|(simp at A6;omega)
 have D6:¬w.heap.size+1=B5:=by first|omega|(simp at A6;omega)
 have Eg:¬B5=w.heap.size+1+1:=by first|omega|(simp at A6;omega)
 have D7:¬w.heap.size+1+1=B5:=by first|omega|(simp at A6;omega)
 have Eh:¬B5=w.heap.size+1+1+1:=by first|omega|(simp at A6;omega)
 have D8:¬w.heap.size+1+1+1=B5:=by first|omega|(simp at A6;omega)
 have Ei:¬B5=B3:=by first|omega|(simp at A6;omega)
 have D9:¬B3=B5:=by first|omega|(simp at A6;omega)
 have Ej:¬B5=B4:=by first|omega|(simp at A6;omega)
 have Da:¬B4=B5:=by first|omega|(simp at A6;omega)
 have Ee:¬B5=B:=by first|omega|(simp at A6;omega)
 have D5:¬B=B5:=by first|omega|(simp at A6;omega)
 go_wp2_with fail
 refine turn_new (fun i=>i==10) 11 #[.int .i64 0,.int .i64 0,.int .i64 0] 65 _ rfl (by kernel_rfl) (by kernel_rfl) (by first|omega|(simp;omega)) (St.cell (St.turn An (Trn.kp C9 kpw))) (fun a w=>by kernel_rfl) fun hG => ?_
 have Ah:=fun o=>hG (w.heap.size) lto o (ne_addr (by omega))
 have A1:=fun o=>hG (w.heap.size+1) lto o (ne_addr (by omega))
 have A2:=fun o=>hG (w.heap.size+1+1) lto o (ne_addr (by omega))
 have A3:=fun o=>hG (w.heap.size+1+1+1) lto o (ne_addr (by omega))
 have Az:=fun o=>hG (B5) lto o (ne_addr (by omega))
 have Ay:=fun o=>hG (B4) lto o (ne_addr (by omega))
 have A0:=fun o=>hG B lto (o+1) ne_off
 clear hG
 simp only[List.take_succ_cons,List.take_zero,List.drop_succ_cons,List.drop_zero]
 repeat (first|(refine wpTurn_pure rfl (fun K hK => ?_);go_simp;first|(refine hK _ _ ?_;clear hK K)|(apply Exists.intro;refine⟨fun _ _ => ?_,hK _ _ ?_⟩;(first|fail);clear hK K))|(refine wpTurn_eff rfl (fun K hK => ?_);go_simp;(first|(with_reducible refine⟨_,_,fun _=>tur_st (St.turn An (Trn.kp C9 kpw)) (fun w h=>TY2.out w h),?_⟩));refine hK _ _ ?_;clear hK K))
 refine wpTurn_nil ?_
 intro B6 w10 hN
 obtain⟨Ac,A7,Ho,J6,Je⟩:=hN
 (try simp at A7)
 clear A0 Ah A1 A2 A3 Az Ay
 have Cb:=Ac.size_le
 (try simp at Cb)
 have Hd:=tn5 Ac (w.heap.size)
 have F2:=tn5 Ac (w.heap.size+1)
 have F3:=tn5 Ac (w.heap.size+1+1)
 have F4:=tn5 Ac (w.heap.size+1+1+1)
 have F6:=tn5 Ac (B5)
 have F5:=tn5 Ac (B4)
 obtain⟨C3,Ie,Il,Iu,Gr,Fu⟩:=rkx At C9 kpw Ac
 (try clear I3 Id)
 have Ha:¬B6=w.heap.size:=by first|omega|(simp at A7;omega)
 have H2:¬w.heap.size=B6:=by first|omega|(simp at A7;omega)
 have El:¬B6=w.heap.size+1:=by first|omega|(simp at A7;omega)
 have Dc:¬w.heap.size+1=B6:=by first|omega|(simp at A7;omega)
 have Em:¬B6=w.heap.size+1+1:=by first|omega|(simp at A7;omega)
 have Dd:¬w.heap.size+1+1=B6:=by first|omega|(simp at A7;omega)
 have En:¬B6=w.heap.size+1+1+1:=by first|omega|(simp at A7;omega)
 have De:¬w.heap.size+1+1+1=B6:=by first|omega|(simp at A7;omega)
 have Ep:¬B6=B5:=by first|omega|(simp at A7;omega)
 have Dg:¬B5=B6:=by first|omega|(simp at A7;omega)
 have Eo:¬B6=B4:=by first|omega|(simp at A7;omega)
 have Df:¬B4=B6:=by first|omega|(simp at A7;omega)
 have Ek:¬B6=B:=by first|omega|(simp at A7;omega)
 have Db:¬B=B6:=by first|omega|(simp at A7;omega)
 go_wp2_with fail
 refine(TO2.out _ (St.turn An (Trn.kp C3 kpw))).mono ?_
 rintro e w11 ⟨rfl,Ad⟩
 have Cc:=Ad.size_le
 (try simp at Cc)
 have C1:=tn5 Ad (w.heap.size)
 have Bb:=tn5 Ad (w.heap.size+1)
 have Bc:=tn5 Ad (w.heap.size+1+1)
 have Bd:=tn5 Ad (w.heap.size+1+1+1)
 have F7:=tn5 Ad (B5)
 have F8:=tn5 Ad (B6)
 obtain⟨Fj,If,Im,Iv,Gs,Fv⟩:=rkx At C3 kpw Ad
 (try clear Fu Gr)
 repeat (first|(with_reducible refine wp_markr 7 ?_)|go_values|go_skip|go_guarded|go_step|go_upon|(simp only[];go_simp))
 refine wp_named (fun w12 Ag => ?_)
 have B9:=congrArg (fun w=>w.heap.size) Ag
 (try simp at B9)
 replace B9:=Nat.le_of_eq B9.symm
 obtain⟨Bl,Ig,In,Iw,Gt,Fw⟩:=rkn At Fj Ag kpw
 have C2:=cas Ag (w.heap.size) [.int .i64 p0.a,.int .i64 p0.b,.int .i64 p0.c,.int .i64 p1.a,.int .i64 p1.b,.int .i64 p1.c,.int .i64 p2.a,.int .i64 p2.b,.int .i64 p2.c,.int .i64 p3.a,.int .i64 p3.b,.int .i64 p3.c]
 have Be:=cas Ag (w.heap.size+1) [.int .i64 m0.a,.int .i64 m0.b,.int .i64 m0.c,.int .i64 m1.a,.int .i64 m1.b,.int .i64 m1.c,.int .i64 m2.a,.int .i64 m2.b,.int .i64 m2.c,.int .i64 m3.a,.int .i64 m3.b,.int .i64 m3.c]
 have Bf:=cas Ag (w.heap.size+1+1) [.int .i64 0,.int .i64 0,.int .i64 0,.int .i64 0,.int .i64 0,.int .i64 0,.int .i64 0,.int .i64 0,.int .i64 0,.int .i64 0,.int .i64 0,.int .i64 0]
 have Bg:=cas Ag (w.heap.size+1+1+1) [.int .i64 O0.a,.int .i64 O0.b,.int .i64 O0.c,.int .i64 O1.a,.int .i64 O1.b,.int .i64 O1.c,.int .i64 O2.a,.int .i64 O2.b,.int .i64 O2.c,.int .i64 0,.int .i64 0,.int .i64 0]
 simp only[CAf,Nat.reduceAdd,and_true]at C2 Be Bf Bg
 clear Ag
 (try clear C1 Bb Bc Bd Fv Gs)
 go_wp2_with fail
 rw[rounds_succ]
 go_wp2_with fail
 refine turn_new (fun i=>i==8) 9 #[.int .i64 0,.int .i64 0,.int .i64 0] 65 _ rfl (by kernel_rfl) (by kernel_rfl) (by first|omega|(simp;omega)) (St.cell (St.turn An (Trn.kp Bl kpw))) (fun a w=>by kernel_rfl) fun hG => ?_
 have Ah:=fun o=>hG (w.heap.size) lto o (ne_addr (by omega))
 have A1:=fun o=>hG (w.heap.size+1) lto o (ne_addr (by omega))
 have A2:=fun o=>hG (w.heap.size+1+1) lto o (ne_addr (by omega))
 have A3:=fun o=>hG (w.heap.size+1+1+1) lto o (ne_addr (by omega))
 have Az:=fun o=>hG (B5) lto o (ne_addr (by omega))
 have B0:=fun o=>hG (B6) lto o (ne_addr (by omega))
 have A0:=fun o=>hG B lto (o+1) ne_off
 clear hG
 simp only[List.take_succ_cons,List.take_zero,List.drop_succ_cons,List.drop_zero]
 repeat (first|(refine wpTurn_pure rfl (fun K hK => ?_);go_simp;first|(refine hK _ _ ?_;clear hK K)|(apply Exists.intro;refine⟨fun _ _ => ?_,hK _ _ ?_⟩;(first|fail);clear hK K))|(refine wpTurn_eff rfl (fun K hK => ?_);go_simp;(first|(with_reducible refine⟨_,_,fun _=>tur_st (St.turn An (Trn.kp Bl kpw)) (fun w h=>TX3.out w h),?_⟩));refine hK _ _ ?_;clear hK K))
 refine wpTurn_nil ?_
 intro B7 w13 hN
 obtain⟨Ae,A8,Hp,J7,Jf⟩:=hN
 (try simp at A8)
 clear A0 Ah A1 A2 A3 Az B0
 have Cd:=Ae.size_le
 (try simp at Cd)
 have He:=tn5 Ae (w.heap.size)
 have F9:=tn5 Ae (w.heap.size+1)
 have Fa:=tn5 Ae (w.heap.size+1+1)
 have Fb:=tn5 Ae (w.heap.size+1+1+1)
 have Fc:=tn5 Ae (B5)
 have Fd:=tn5 Ae (B6)
 obtain⟨Bm,Ih,Io,Ix,Gu,Fx⟩:=rkx At Bl kpw Ae
 (try clear Fw Gt)
 have Hb:¬B7=w.heap.size:=by first|omega|(simp at A8;omega)
 have H3:¬w.heap.size=B7:=by first|omega|(simp at A8;omega)
 have Er:¬B7=w.heap.size+1:=by first|omega|(simp at A8;omega)
 have Di:¬w.heap.size+1=B7:=by first|omega|(simp at A8;omega)
 have Es:¬B7=w.heap.size+1+1:=by first|omega|(simp at A8;omega)
 have Dj:¬w.heap.size+1+1=B7:=by first|omega|(simp at A8;omega)
 have Et:¬B7=w.heap.size+1+1+1:=by first|omega|(simp at A8;omega)
 have Dk:¬w.heap.size+1+1+1=B7:=by first|omega|(simp at A8;omega)
 have Eu:¬B7=B5:=by first|omega|(simp at A8;omega)
 have Dl:¬B5=B7:=by first|omega|(simp at A8;omega)
 have Ev:¬B7=B6:=by first|omega|(simp at A8;omega)
 have Dm:¬B6=B7:=by first|omega|(simp at A8;omega)
 have Eq:¬B7=B:=by first|omega|(simp at A8;omega)
 have Dh:¬B=B7:=by first|omega|(simp at A8;omega)
 go_wp2_with fail
 refine turn_new (fun i=>i==10) 11 #[.int .i64 0,.int .i64 0,.int .i64 0] 65 _ rfl (by kernel_rfl) (by kernel_rfl) (by first|omega|(simp;omega)) (St.cell (St.turn An (Trn.kp Bm kpw))) (fun a w=>by kernel_rfl) fun hG => ?_
 have Ah:=fun o=>hG (w.heap.size) lto o (ne_addr (by omega))
 have A1:=fun o=>hG (w.heap.size+1) lto o (ne_addr (by omega))
 have A2:=fun o=>hG (w.heap.size+1+1) lto o (ne_addr (by omega))
 have A3:=fun o=>hG (w.heap.size+1+1+1) lto o (ne_addr (by omega))
 have Ca:=fun o=>hG (B7) lto o (ne_addr (by omega))
 have B0:=fun o=>hG (B6) lto o (ne_addr (by omega))
 have A0:=fun o=>hG B lto (o+1) ne_off
 clear hG
 simp only[List.take_succ_cons,List.take_zero,List.drop_succ_cons,List.drop_zero]
 repeat (first|(refine wpTurn_pure rfl (fun K hK => ?_);go_simp;first|(refine hK _ _ ?_;clear hK K)|(apply Exists.intro;refine⟨fun _ _ => ?_,hK _ _ ?_⟩;(first|fail);clear hK K))|(refine wpTurn_eff rfl (fun K hK => ?_);go_simp;(first|(with_reducible refine⟨_,_,fun _=>tur_st (St.turn An (Trn.kp Bm kpw)) (fun w h=>TY3.out w h),?_⟩));refine hK _ _ ?_;clear hK K))
 refine wpTurn_nil ?_
 intro B8 w14 hN
 obtain⟨Af,A9,Hq,J8,Jg⟩:=hN
 (try simp at A9)
 clear A0 Ah A1 A2 A3 Ca B0
 have Ce:=Af.size_le
 (try simp at Ce)
 have Hf:=tn5 Af (w.heap.size)
 have Fe:=tn5 Af (w.heap.size+1)
 have Ff:=tn5 Af (w.heap.size+1+1)
 have Fg:=tn5 Af (w.heap.size+1+1+1)
 have Fi:=tn5 Af (B7)
 have Fh:=tn5 Af (B6)
 obtain⟨C4,Ii,Ip,Iy,Gv,Fy⟩:=rkx At Bm kpw Af
 (try clear Fx Gu)
 have Hc:¬B8=w.heap.size:=by first|omega|(simp at A9;omega)
 have H4:¬w.heap.size=B8:=by first|omega|(simp at A9;omega)
 have Ex:¬B8=w.heap.size+1:=by first|omega|(simp at A9;omega)
 have Do:¬w.heap.size+1=B8:=by first|omega|(simp at A9;omega)
 have Ey:¬B8=w.heap.size+1+1:=by first|omega|(simp at A9;omega)
 have Dp:¬w.heap.size+1+1=B8:=by first|omega|(simp at A9;omega)
 have Ez:¬B8=w.heap.size+1+1+1:=by first|omega|(simp at A9;omega)
 have Dq:¬w.heap.size+1+1+1=B8:=by first|omega|(simp at A9;omega)
 have F1:¬B8=B7:=by first|omega|(simp at A9;omega)
 have Ds:¬B7=B8:=by first|omega|(simp at A9;omega)
 have F0:¬B8=B6:=by first|omega|(simp at A9;omega)
 have Dr:¬B6=B8:=by first|omega|(simp at A9;omega)
 have Ew:¬B8=B:=by first|omega|(simp at A9;omega)
 have Dn:¬B=B8:=by first|omega|(simp at A9;omega)
 go_wp2_with fail
 refine(TO3.out _ (St.turn An (Trn.kp C4 kpw))).mono ?_
 rintro e w15 ⟨rfl,Au⟩
 have Cf:=Au.size_le
 (try simp at Cf)
 have Bh:=tn5 Au (w.heap.size+1+1)
 have Bi:=tn5 Au (w.heap.size+1+1+1)
 obtain⟨Fk,Ij,Iq,Iz,Gw,Fz⟩:=rkx At C4 kpw Au
 (try clear Fy Gv)
 repeat (first|(with_reducible refine wp_markr 7 ?_)|go_values|go_skip|go_guarded|go_step|go_upon|(simp only[];go_simp))
 refine wp_named (fun w16 Ao => ?_)
 have Ba:=congrArg (fun w=>w.heap.size) Ao
 (try simp at Ba)
 replace Ba:=Nat.le_of_eq Ba.symm
 obtain⟨It,Ik,Ir,J0,Ji,Jh⟩:=rkn At Fk Ao kpw
 have Bj:=cas Ao (w.heap.size+1+1) [.int .i64 0,.int .i64 0,.int .i64 0,.int .i64 0,.int .i64 0,.int .i64 0,.int .i64 0,.int .i64 0,.int .i64 0,.int .i64 0,.int .i64 0,.int .i64 0]
 have Bk:=cas Ao (w.heap.size+1+1+1) [.int .i64 O0.a,.int .i64 O0.b,.int .i64 O0.c,.int .i64 O1.a,.int .i64 O1.b,.int .i64 O1.c,.int .i64 O2.a,.int .i64 O2.b,.int .i64 O2.c,.int .i64 O3.a,.int .i64 O3.b,.int .i64 O3.c]
 simp only[CAf,Nat.reduceAdd,and_true]at Bj Bk
 clear Ao
 (try clear Bh Bi Fz Gw)
 go_wp2_with fail
 rw[rounds_succ]
 go_wp2_with fail
 rw[rounds_succ]
 repeat' (first|go_values|go_skip|go_guarded|go_step|go_upon|(simp only[];go_simp))
 refine bodyPost_ret (by simp[results,Tryz.results174,go_sem, *];first|done|rfl) rfl ?_
 exact⟨rfl,trw⟩
theorem r_product (B:Nat) (e:Int) (p m:Mat) (hp:p.fine) (hm:m.fine) (A:Ask) (w:World) (At:Rt B e A w) :
  Calls Tryz.prog 174 #[.pointer (some ⟨B,0,none⟩),.agg p.ints,.agg m.ints] w fun E w'=>E = .returned (.agg (mulR e p m).1.ints)∧Trn B (mulR e p m).2 w w':=by
 obtain⟨p0,p1,p2,p3⟩:=p
 obtain⟨m0,m1,m2,m3⟩:=m
 obtain⟨a0,a1,a2,a3⟩:=hp
 obtain⟨b0,b1,b2,b3⟩:=hm
 obtain⟨X0,hX0⟩:=is_ex (after e (ti p0 m0))
 obtain⟨Y0,hY0⟩:=is_ex (after X0.q (ti p1 m2))
 obtain⟨O0,hO0⟩:=is_ex (after Y0.q (pl X0 Y0))
 obtain⟨X1,hX1⟩:=is_ex (after O0.q (ti p0 m1))
 obtain⟨Y1,hY1⟩:=is_ex (after X1.q (ti p1 m3))
 obtain⟨O1,hO1⟩:=is_ex (after Y1.q (pl X1 Y1))
 obtain⟨X2,hX2⟩:=is_ex (after O1.q (ti p2 m0))
 obtain⟨Y2,hY2⟩:=is_ex (after X2.q (ti p3 m2))
 obtain⟨O2,hO2⟩:=is_ex (after Y2.q (pl X2 Y2))
 obtain⟨X3,hX3⟩:=is_ex (after O2.q (ti p2 m1))
 obtain⟨Y3,hY3⟩:=is_ex (after X3.q (ti p3 m3))
 obtain⟨O3,hO3⟩:=is_ex (after Y3.q (pl X3 Y3))
 rw[mul_is (dot_is hX0 hY0 hO0) (dot_is hX1 hY1 hO1) (dot_is hX2 hY2 hO2) (dot_is hX3 hY3 hO3)]
 exact rprod_walk B e p0 p1 p2 p3 m0 m1 m2 m3 X0 Y0 O0 X1 Y1 O1 X2 Y2 O2 X3 Y3 O3 a0 a1 a2 a3 b0 b1 b2 b3 hX0 hY0 hO0 hX1 hY1 hO1 hX2 hY2 hO2 hX3 hY3 hO3 A w At
end Go.Proofs.YtnljkhlmdacfaaaGreatDoor
