/- Joined: Matrix Mul Through. -/
import Derived.Test.YticobgianbecpaaGreatDoorKMed
import Derived.Test.YticobgianbecpaaGreatDoorKTop
namespace Go.Proofs.YticobgianbecpaaGreatDoor
open Go Go.Sort Go.RowKit
theorem mat_is {e:Int}{y g h p u n c v w:Res} (hh:Is h (after e halfR)) (hp:Is p (after h.q (pl oneR g))) (hu:Is u (after p.q (ti p h))) (hn:Is n (after u.q (mi oneR g))) (hc:Is c (after n.q (ti n h)))
  (hv:Is v (after c.q (qt c y))) (hw:Is w (after v.q (ti c y))):matR e y g=(⟨u,v,w,u⟩,w.q):=by
 cases hh;cases hp;cases hu;cases hn;cases hc;cases hv;cases hw;unfold matR;rfl
theorem half_frac:ofFracM 1 2=halfR:=by unfold halfR;decide +kernel
set_option maxHeartbeats 4000000 in
theorem matrix_any (B:Nat) (e:Int) (A:Ask) (y g:Res) (fy:Fine y) (fg:Fine g) (w:World) (Ai:Lt B e A w) :
  Calls Tryz.prog 156 #[.pointer (some ⟨B,0,none⟩),.agg #[.complex .f64 (fl y.a) (fl y.b),.int .i64 y.c],.agg #[.complex .f64 (fl g.a) (fl g.b),.int .i64 g.c]] w fun E w' =>
   E = .returned (.agg (matR e y g).1.cells)∧Trn B (matR e y g).2 w w':=by
 obtain⟨H,hH⟩:=is_ex (after e halfR)
 obtain⟨P,hP⟩:=is_ex (after H.q (pl oneR g))
 obtain⟨U,hU⟩:=is_ex (after P.q (ti P H))
 obtain⟨N,hN⟩:=is_ex (after U.q (mi oneR g))
 obtain⟨C,hC⟩:=is_ex (after N.q (ti N H))
 obtain⟨V,hV⟩:=is_ex (after C.q (qt C y))
 obtain⟨X,hX⟩:=is_ex (after V.q (ti C y))
 rw[mat_is hH hP hU hN hC hV hX]
 have hF:Is H (after e (ofFracM 1 2)):=by rw[half_frac];exact hH
 have fH:Fine H:=hH.fine (fine_after _ fine_halfR)
 have fP:Fine P:=hP.fine (fine_after _ (fine_pl _ _))
 have fU:Fine U:=hU.fine (fine_after _ (fine_ti _ _))
 have fN:Fine N:=hN.fine (fine_after _ (fine_mi _ _))
 have fC:Fine C:=hC.fine (fine_after _ (fine_ti _ _))
 have fV:Fine V:=hV.fine (fine_after _ (fine_qt _ _))
 simp only[Mat.cells]
 have Ab:=Ai.st
 have Ik:=tr_refl Ab
 obtain⟨Gh,Gi,Gj,Gk,Gl,Gm,Gn,Gp,Gq⟩:=Ai.cells
 have Kb:=Ab.cell
 have Kc:=Ab.free
 have Lk:=Ab.lt
 have Me:=own5 Lk
 go_enter Tryz.func156,Tryz.ntmps156
 go_wp2_with fail
 refine((c_frac B e 1 2).to hF _ (St.turn Ab (Trn.kp Ik kpw))).mono ?_
 rintro e w1 ⟨rfl,Ah⟩
 have Cs:=Ah.size_le
 (try simp at Cs)
 have Iz:=tn5 Ah (w.heap.size)
 have G5:=tn5 Ah (w.heap.size+1)
 have Ky:=tn5 Ah (w.heap.size+1+1)
 obtain⟨Bz,K0,K6,Kd,Hw,G4⟩:=pkx Ai Ik kpw Ah
 (try clear Kb Kc Gh Gi Gj Gk Gl Gm Gn Gp Gq)
 go_wp2_with fail
 refine turn_new (fun i=>i==8||i==10) 11 #[.complex .f64 0 0,.int .i64 0] 57 _ rfl (by kernel_rfl) (by kernel_rfl) (by first|omega|(simp;omega)) (St.cell (St.turn Ab (Trn.kp Bz kpw))) (fun a w=>by kernel_rfl) fun hG => ?_
 have A8:=fun o=>hG (w.heap.size) lto o (ne_addr (by omega))
 have A6:=fun o=>hG (w.heap.size+1) lto o (ne_addr (by omega))
 have A4:=fun o=>hG (w.heap.size+1+1) lto o (ne_addr (by omega))
 have G3:=fun o=>hG (w1.heap.size) lto o (ne_addr (by omega))
 have A2:=fun o=>hG B lto (o+1) ne_off
 clear hG
 simp only[List.take_succ_cons,List.take_zero,List.drop_succ_cons,List.drop_zero]
 repeat (first|(refine wpTurn_pure rfl (fun K hK => ?_);go_simp;first|(refine hK _ _ ?_;clear hK K)|(apply Exists.intro;refine⟨fun _ _ => ?_,hK _ _ ?_⟩;(first|(go_at_call 73;with_reducible exact cal_call one_cl));clear hK K))|(refine wpTurn_eff rfl (fun K hK => ?_);go_simp;(first|(first|with_reducible refine⟨_,_,fun _=>tur_st (St.turn Ab (Trn.kp Bz kpw)) (fun w h=>(c_plus B H.q oneR g fine_oneR fg).to hP w h),?_⟩|with_reducible refine⟨_,_,fun _=>tur_st (St.turn Ab (Trn.kp Bz kpw)) (fun w h=>(c_times B P.q P H fP fH).to hU w h),?_⟩));refine hK _ _ ?_;clear hK K))
 refine wpTurn_nil ?_
 intro B1 w2 hN
 obtain⟨Ac,A5,Ir,Ki,Km⟩:=hN
 (try simp at A5)
 clear A2 A8 A6 A4 G3
 have Ct:=Ac.size_le
 (try simp at Ct)
 have J0:=tn5 Ac (w.heap.size)
 have G7:=tn5 Ac (w.heap.size+1)
 have L1:=tn5 Ac (w.heap.size+1+1)
 have Lo:=tn5 Ac (w1.heap.size)
 obtain⟨C6,K1,K7,Ke,Ge,G6⟩:=pkx Ai Bz kpw Ac
 (try clear G4)
 have H7:¬B1=w.heap.size:=by first|omega|(simp at A5;omega)
 have H3:¬w.heap.size=B1:=by first|omega|(simp at A5;omega)
 have Dq:¬B1=w.heap.size+1:=by first|omega|(simp at A5;omega)
 have Dd:¬w.heap.size+1=B1:=by first|omega|(simp at A5;omega)
 have Dr:¬B1=w.heap.size+1+1:=by first|omega|(simp at A5;omega)
 have De:¬w.heap.size+1+1=B1:=by first|omega|(simp at A5;omega)
 have Kt:¬B1=w1.heap.size:=by first|omega|(simp at A5;omega)
 have Kr:¬w1.heap.size=B1:=by first|omega|(simp at A5;omega)
 have Dp:¬B1=B:=by first|omega|(simp at A5;omega)
 have Dc:¬B=B1:=by first|omega|(simp at A5;omega)
 go_wp2_with fail
 refine turn_new (fun i=>i==8||i==10) 11 #[.complex .f64 0 0,.int .i64 0] 57 _ rfl (by kernel_rfl) (by kernel_rfl) (by first|omega|(simp;omega)) (St.cell (St.turn Ab (Trn.kp C6 kpw))) (fun a w=>by kernel_rfl) fun hG => ?_
 have A8:=fun o=>hG (w.heap.size) lto o (ne_addr (by omega))
 have A6:=fun o=>hG (w.heap.size+1) lto o (ne_addr (by omega))
 have A4:=fun o=>hG (w.heap.size+1+1) lto o (ne_addr (by omega))
 have G3:=fun o=>hG (w1.heap.size) lto o (ne_addr (by omega))
 have Ae:=fun o=>hG (B1) lto o (ne_addr (by omega))
 have A2:=fun o=>hG B lto (o+1) ne_off
 clear hG
 simp only[List.take_succ_cons,List.take_zero,List.drop_succ_cons,List.drop_zero]
 repeat (first|(refine wpTurn_pure rfl (fun K hK => ?_);go_simp;first|(refine hK _ _ ?_;clear hK K)|(apply Exists.intro;refine⟨fun _ _ => ?_,hK _ _ ?_⟩;(first|(go_at_call 73;with_reducible exact cal_call one_cl));clear hK K))|(refine wpTurn_eff rfl (fun K hK => ?_);go_simp;(first|(first|with_reducible refine⟨_,_,fun _=>tur_st (St.turn Ab (Trn.kp C6 kpw)) (fun w h=>(c_minus B U.q oneR g fine_oneR fg).to hN w h),?_⟩|with_reducible refine⟨_,_,fun _=>tur_st (St.turn Ab (Trn.kp C6 kpw)) (fun w h=>(c_times B N.q N H fN fH).to hC w h),?_⟩));refine hK _ _ ?_;clear hK K))
 refine wpTurn_nil ?_
 intro B2 w3 hN
 obtain⟨A9,A0,It,Kj,Kn⟩:=hN
 (try simp at A0)
 clear A2 A8 A6 A4 G3 Ae
 have Cu:=A9.size_le
 (try simp at Cu)
 have J1:=tn5 A9 (w.heap.size)
 have Ga:=tn5 A9 (w.heap.size+1)
 have L2:=tn5 A9 (w.heap.size+1+1)
 have Lp:=tn5 A9 (w1.heap.size)
 have Cx:=tn5 A9 (B1)
 obtain⟨C7,K2,K8,Kf,Gf,G9⟩:=pkx Ai C6 kpw A9
 (try clear G6 Ge)
 have H8:¬B2=w.heap.size:=by first|omega|(simp at A0;omega)
 have H4:¬w.heap.size=B2:=by first|omega|(simp at A0;omega)
 have Dt:¬B2=w.heap.size+1:=by first|omega|(simp at A0;omega)
 have Dg:¬w.heap.size+1=B2:=by first|omega|(simp at A0;omega)
 have Du:¬B2=w.heap.size+1+1:=by first|omega|(simp at A0;omega)
 have Dh:¬w.heap.size+1+1=B2:=by first|omega|(simp at A0;omega)
 have Ku:¬B2=w1.heap.size:=by first|omega|(simp at A0;omega)
 have Ks:¬w1.heap.size=B2:=by first|omega|(simp at A0;omega)
 have Dv:¬B2=B1:=by first|omega|(simp at A0;omega)
 have Di:¬B1=B2:=by first|omega|(simp at A0;omega)
 have Ds:¬B2=B:=by first|omega|(simp at A0;omega)
 have Df:¬B=B2:=by first|omega|(simp at A0;omega)
 go_wp2_with fail
 refine turn_new (fun i=>i==5) 6 #[.complex .f64 0 0,.int .i64 0] 57 _ rfl (by kernel_rfl) (by kernel_rfl) (by first|omega|(simp;omega)) (St.cell (St.turn Ab (Trn.kp C7 kpw))) (fun a w=>by kernel_rfl) fun hG => ?_
 have A8:=fun o=>hG (w.heap.size) lto o (ne_addr (by omega))
 have A4:=fun o=>hG (w.heap.size+1+1) lto o (ne_addr (by omega))
 have Ae:=fun o=>hG (B1) lto o (ne_addr (by omega))
 have An:=fun o=>hG (B2) lto o (ne_addr (by omega))
 have A2:=fun o=>hG B lto (o+1) ne_off
 clear hG
 simp only[List.take_succ_cons,List.take_zero,List.drop_succ_cons,List.drop_zero]
 repeat (first|(refine wpTurn_pure rfl (fun K hK => ?_);go_simp;first|(refine hK _ _ ?_;clear hK K)|(apply Exists.intro;refine⟨fun _ _ => ?_,hK _ _ ?_⟩;(first|fail);clear hK K))|(refine wpTurn_eff rfl (fun K hK => ?_);go_simp;(first|(with_reducible refine⟨_,_,fun _=>tur_st (St.turn Ab (Trn.kp C7 kpw)) (fun w h=>(c_by B C.q C y fC fy).to hV w h),?_⟩));refine hK _ _ ?_;clear hK K))
 refine wpTurn_nil ?_
 intro B3 w4 hN
 obtain⟨Ad,A3,Iu,Kk,Ko⟩:=hN
 (try simp at A3)
 clear A2 A8 A4 Ae An
 have Cv:=Ad.size_le
 (try simp at Cv)
 have J2:=tn5 Ad (w.heap.size)
 have L4:=tn5 Ad (w.heap.size+1+1)
 have L5:=tn5 Ad (B1)
 have Cy:=tn5 Ad (B2)
 obtain⟨Cc,K3,K9,Kg,Gg,Gb⟩:=pkx Ai C7 kpw Ad
 (try clear G9 Gf)
 have H9:¬B3=w.heap.size:=by first|omega|(simp at A3;omega)
 have H5:¬w.heap.size=B3:=by first|omega|(simp at A3;omega)
 have Dx:¬B3=w.heap.size+1+1:=by first|omega|(simp at A3;omega)
 have Dk:¬w.heap.size+1+1=B3:=by first|omega|(simp at A3;omega)
 have Jj:¬B3=B1:=by first|omega|(simp at A3;omega)
 have Ja:¬B1=B3:=by first|omega|(simp at A3;omega)
 have Dy:¬B3=B2:=by first|omega|(simp at A3;omega)
 have Dl:¬B2=B3:=by first|omega|(simp at A3;omega)
 have Dw:¬B3=B:=by first|omega|(simp at A3;omega)
 have Dj:¬B=B3:=by first|omega|(simp at A3;omega)
 go_wp2_with fail
 refine turn_new (fun i=>i==5) 6 #[.complex .f64 0 0,.int .i64 0] 57 _ rfl (by kernel_rfl) (by kernel_rfl) (by first|omega|(simp;omega)) (St.cell (St.turn Ab (Trn.kp Cc kpw))) (fun a w=>by kernel_rfl) fun hG => ?_
 have A8:=fun o=>hG (w.heap.size) lto o (ne_addr (by omega))
 have A4:=fun o=>hG (w.heap.size+1+1) lto o (ne_addr (by omega))
 have Ae:=fun o=>hG (B1) lto o (ne_addr (by omega))
 have An:=fun o=>hG (B2) lto o (ne_addr (by omega))
 have C0:=fun o=>hG (B3) lto o (ne_addr (by omega))
 have A2:=fun o=>hG B lto (o+1) ne_off
 clear hG
 simp only[List.take_succ_cons,List.take_zero,List.drop_succ_cons,List.drop_zero]
 repeat (first|(refine wpTurn_pure rfl (fun K hK => ?_);go_simp;first|(refine hK _ _ ?_;clear hK K)|(apply Exists.intro;refine⟨fun _ _ => ?_,hK _ _ ?_⟩;(first|fail);clear hK K))|(refine wpTurn_eff rfl (fun K hK => ?_);go_simp;(first|(with_reducible refine⟨_,_,fun _=>tur_st (St.turn Ab (Trn.kp Cc kpw)) (fun w h=>(c_times B V.q C y fC fy).to hX w h),?_⟩));refine hK _ _ ?_;clear hK K))
 refine wpTurn_nil ?_
 intro B4 w5 hN
 obtain⟨Aa,A1,Iv,Kl,Kp⟩:=hN
 (try simp at A1)
 clear A2 A8 A4 Ae An C0
 have Cw:=Aa.size_le
 (try simp at Cw)
 have J4:=tn5 Aa (w.heap.size)
 have L7:=tn5 Aa (w.heap.size+1+1)
 have L8:=tn5 Aa (B1)
 have Cz:=tn5 Aa (B2)
 have L9:=tn5 Aa (B3)
 obtain⟨Db,K4,Ka,Kh,J5,J3⟩:=pkx Ai Cc kpw Aa
 (try clear Gb Gg)
 have Ha:¬B4=w.heap.size:=by first|omega|(simp at A1;omega)
 have H6:¬w.heap.size=B4:=by first|omega|(simp at A1;omega)
 have E0:¬B4=w.heap.size+1+1:=by first|omega|(simp at A1;omega)
 have Dn:¬w.heap.size+1+1=B4:=by first|omega|(simp at A1;omega)
 have Jm:¬B4=B1:=by first|omega|(simp at A1;omega)
 have Jd:¬B1=B4:=by first|omega|(simp at A1;omega)
 have Jn:¬B4=B2:=by first|omega|(simp at A1;omega)
 have Je:¬B2=B4:=by first|omega|(simp at A1;omega)
 have E1:¬B4=B3:=by first|omega|(simp at A1;omega)
 have Do:¬B3=B4:=by first|omega|(simp at A1;omega)
 have Dz:¬B4=B:=by first|omega|(simp at A1;omega)
 have Dm:¬B=B4:=by first|omega|(simp at A1;omega)
 repeat' (first|go_values|go_skip|go_guarded|go_step|go_upon|(simp only[];go_simp))
 refine bodyPost_ret (by simp[results,Tryz.results156,go_sem, *];first|done|rfl) rfl ?_
 exact⟨rfl,trw⟩
end Go.Proofs.YticobgianbecpaaGreatDoor
namespace Go.Proofs.YticobgianbecpaaGreatDoor
open Go Go.Sort Go.RowKit
theorem dot_is {e:Int}{a b c d x y o:Res} (hx:Is x (after e (ti a b))) (hy:Is y (after x.q (ti c d))) (ho:Is o (after y.q (pl x y))):dotR e a b c d=o:=by cases hx;cases hy;cases ho;unfold dotR;rfl
theorem mul_is {e:Int}{p m:Mat}{o0 o1 o2 o3:Res} (h0:dotR e p.m0 m.m0 p.m1 m.m2=o0) (h1:dotR o0.q p.m0 m.m1 p.m1 m.m3=o1) (h2:dotR o1.q p.m2 m.m0 p.m3 m.m2=o2) (h3:dotR o2.q p.m2 m.m1 p.m3 m.m3=o3) :
  mulR e p m=(⟨o0,o1,o2,o3⟩,o3.q):=by subst h0;subst h1;subst h2;subst h3;unfold mulR;rfl
theorem fine_dot (e:Int) (a b c d:Res):Fine (dotR e a b c d):=by unfold dotR;exact fine_after _ (fine_pl _ _)
theorem mul_fine (e:Int) (p m:Mat):(mulR e p m).1.fine:=by unfold mulR;exact⟨fine_dot _ _ _ _ _,fine_dot _ _ _ _ _,fine_dot _ _ _ _ _,fine_dot _ _ _ _ _⟩
set_option maxHeartbeats 16000000 in
theorem mul_walk (B:Nat) (e:Int) (A:Ask) (p0 p1 p2 p3 m0 m1 m2 m3 X0 Y0 O0 X1 Y1 O1 X2 Y2 O2 X3 Y3 O3:Res)
  (fp0:Fine p0) (fp1:Fine p1) (fp2:Fine p2) (fp3:Fine p3) (fm0:Fine m0) (fm1:Fine m1) (fm2:Fine m2) (fm3:Fine m3)
  (hX0:Is X0 (after e (ti p0 m0))) (hY0:Is Y0 (after X0.q (ti p1 m2))) (hO0:Is O0 (after Y0.q (pl X0 Y0)))
  (hX1:Is X1 (after O0.q (ti p0 m1))) (hY1:Is Y1 (after X1.q (ti p1 m3))) (hO1:Is O1 (after Y1.q (pl X1 Y1)))
  (hX2:Is X2 (after O1.q (ti p2 m0))) (hY2:Is Y2 (after X2.q (ti p3 m2))) (hO2:Is O2 (after Y2.q (pl X2 Y2)))
  (hX3:Is X3 (after O2.q (ti p2 m1))) (hY3:Is Y3 (after X3.q (ti p3 m3))) (hO3:Is O3 (after Y3.q (pl X3 Y3)))
  (w:World) (Ai:Lt B e A w):Calls Tryz.prog 155 #[.pointer (some ⟨B,0,none⟩),.agg #[.complex .f64 (fl p0.a) (fl p0.b),.int .i64 p0.c,.complex .f64 (fl p1.a) (fl p1.b),.int .i64 p1.c,.complex .f64 (fl p2.a) (fl p2.b),.int .i64 p2.c,.complex .f64 (fl p3.a) (fl p3.b),.int .i64 p3.c],.agg #[.complex .f64 (fl m0.a) (fl m0.b),.int .i64 m0.c,.complex .f64 (fl m1.a) (fl m1.b),.int .i64 m1.c,.complex .f64 (fl m2.a) (fl m2.b),.int .i64 m2.c,.complex .f64 (fl m3.a) (fl m3.b),.int .i64 m3.c]] w fun E w' =>
   E = .returned (.agg #[.complex .f64 (fl O0.a) (fl O0.b),.int .i64 O0.c,.complex .f64 (fl O1.a) (fl O1.b),.int .i64 O1.c,.complex .f64 (fl O2.a) (fl O2.b),.int .i64 O2.c,.complex .f64 (fl O3.a) (fl O3.b),.int .i64 O3.c])∧Trn B O3.q w w':=by
 have fX0:Fine X0:=hX0.fine (fine_after _ (fine_ti _ _))
 have fY0:Fine Y0:=hY0.fine (fine_after _ (fine_ti _ _))
 have fX1:Fine X1:=hX1.fine (fine_after _ (fine_ti _ _))
 have fY1:Fine Y1:=hY1.fine (fine_after _ (fine_ti _ _))
 have fX2:Fine X2:=hX2.fine (fine_after _ (fine_ti _ _))
 have fY2:Fine Y2:=hY2.fine (fine_after _ (fine_ti _ _))
 have fX3:Fine X3:=hX3.fine (fine_after _ (fine_ti _ _))
 have fY3:Fine Y3:=hY3.fine (fine_after _ (fine_ti _ _))
 have TX0:=Lib.hid ((c_times B e p0 m0 fp0 fm0).to hX0)
 have TY0:=Lib.hid ((c_times B X0.q p1 m2 fp1 fm2).to hY0)
 have TO0:=Lib.hid ((c_plus B Y0.q X0 Y0 fX0 fY0).to hO0)
 have TX1:=Lib.hid ((c_times B O0.q p0 m1 fp0 fm1).to hX1)
 have TY1:=Lib.hid ((c_times B X1.q p1 m3 fp1 fm3).to hY1)
 have TO1:=Lib.hid ((c_plus B Y1.q X1 Y1 fX1 fY1).to hO1)
 have TX2:=Lib.hid ((c_times B O1.q p2 m0 fp2 fm0).to hX2)
 have TY2:=Lib.hid ((c_times B X2.q p3 m2 fp3 fm2).to hY2)
 have TO2:=Lib.hid ((c_plus B Y2.q X2 Y2 fX2 fY2).to hO2)
 have TX3:=Lib.hid ((c_times B O2.q p2 m1 fp2 fm1).to hX3)
 have TY3:=Lib.hid ((c_times B X3.q p3 m3 fp3 fm3).to hY3)
 have TO3:=Lib.hid ((c_plus B Y3.q X3 Y3 fX3 fY3).to hO3)
 clear hX0 hY0 hO0 fX0 fY0 hX1 hY1 hO1 fX1 fY1 hX2 hY2 hO2 fX2 fY2 hX3 hY3 hO3 fX3 fY3 fp0 fp1 fp2 fp3 fm0 fm1 fm2 fm3
 have Z0:IntKind.i64.wrap 0=0:=by decide
 have Z1:IntKind.i64.wrap 1=1:=by decide
 have Z2:IntKind.i64.wrap 2=2:=by decide
 have Z3:IntKind.i64.wrap 3=3:=by decide
 have Z4:IntKind.i64.wrap 4=4:=by decide
 have Ab:=Ai.st
 have Ik:=tr_refl Ab
 obtain⟨Gh,Gi,Gj,Gk,Gl,Gm,Gn,Gp,Gq⟩:=Ai.cells
 have Kb:=Ab.cell
 have Kc:=Ab.free
 have Lk:=Ab.lt
 have Me:=own5 Lk
 go_enter Tryz.func155,Tryz.ntmps155
 go_wp2_with fail
 refine wp_loop_rounds 5 ?_
 rw[rounds_succ]
 go_wp2_with fail
 refine turn_new (fun i=>i==9) 10 #[.complex .f64 0 0,.int .i64 0] 57 _ rfl (by kernel_rfl) (by kernel_rfl) (by first|omega|(simp;omega)) (St.cell (St.turn Ab (Trn.kp Ik kpw))) (fun a w=>by kernel_rfl) fun hG => ?_
 have A8:=fun o=>hG (w.heap.size) lto o (ne_addr (by omega))
 have A6:=fun o=>hG (w.heap.size+1) lto o (ne_addr (by omega))
 have A4:=fun o=>hG (w.heap.size+1+1) lto o (ne_addr (by omega))
 have A7:=fun o=>hG (w.heap.size+1+1+1) lto o (ne_addr (by omega))
 have A2:=fun o=>hG B lto (o+1) ne_off
 clear hG
 simp only[List.take_succ_cons,List.take_zero,List.drop_succ_cons,List.drop_zero]
 repeat (first|(refine wpTurn_pure rfl (fun K hK => ?_);go_simp;first|(refine hK _ _ ?_;clear hK K)|(apply Exists.intro;refine⟨fun _ _ => ?_,hK _ _ ?_⟩;(first|fail);clear hK K))|(refine wpTurn_eff rfl (fun K hK => ?_);go_simp;(first|(with_reducible refine⟨_,_,fun _=>tur_st (St.turn Ab (Trn.kp Ik kpw)) (fun w h=>TX0.out w h),?_⟩));refine hK _ _ ?_;clear hK K))
 refine wpTurn_nil ?_
 intro B1 w1 hN
 obtain⟨Ah,A5,Ir,Ki,Km⟩:=hN
 (try simp at A5)
 clear A2 A8 A6 A4 A7
 have Cs:=Ah.size_le
 (try simp at Cs)
 obtain⟨Hp,Hi,Hb,Cd,Ck⟩:=tn5 Ah (w.heap.size)
 obtain⟨Eu,Eg,E2,Az,Bh⟩:=tn5 Ah (w.heap.size+1)
 obtain⟨Ev,Eh,E3,B0,Bi⟩:=tn5 Ah (w.heap.size+1+1)
 have Aq:=tn5 Ah (w.heap.size+1+1+1)
 obtain⟨Bz,K0,K6,Kd,Hw,G4⟩:=pkx Ai Ik kpw Ah
 (try clear Kb Kc Gh Gi Gj Gk Gl Gm Gn Gp Gq)
 have H7:¬B1=w.heap.size:=by first|omega|(simp at A5;omega)
 have H3:¬w.heap.size=B1:=by first|omega|(simp at A5;omega)
 have Dq:¬B1=w.heap.size+1:=by first|omega|(simp at A5;omega)
 have Dd:¬w.heap.size+1=B1:=by first|omega|(simp at A5;omega)
 have Dr:¬B1=w.heap.size+1+1:=by first|omega|(simp at A5;omega)
 have De:¬w.heap.size+1+1=B1:=by first|omega|(simp at A5;omega)
 have Jf:¬B1=w.heap.size+1+1+1:=by first|omega|(simp at A5;omega)
 have J6:¬w.heap.size+1+1+1=B1:=by first|omega|(simp at A5;omega)
 have Dp:¬B1=B:=by first|omega|(simp at A5;omega)
 have Dc:¬B=B1:=by first|omega|(simp at A5;omega)
 have I5:∀o,w1.cell? ⟨w.heap.size,o,none⟩=(#[Value.complex .f64 (fl p0.a) (fl p0.b),Value.int .i64 p0.c,Value.complex .f64 (fl p1.a) (fl p1.b),Value.int .i64 p1.c,Value.complex .f64 (fl p2.a) (fl p2.b),Value.int .i64 p2.c,Value.complex .f64 (fl p3.a) (fl p3.b),Value.int .i64 p3.c]:Array Value)[o]?:=fun o=>(Cd o).trans (by go_simp)
 have Ic:∀o,w1.frozen? ⟨w.heap.size,o,none⟩=false:=fun o=>(Ck o).trans (by go_simp)
 clear Cd Ck
 have Fa:∀o,w1.cell? ⟨w.heap.size+1,o,none⟩=(#[Value.complex .f64 (fl m0.a) (fl m0.b),Value.int .i64 m0.c,Value.complex .f64 (fl m1.a) (fl m1.b),Value.int .i64 m1.c,Value.complex .f64 (fl m2.a) (fl m2.b),Value.int .i64 m2.c,Value.complex .f64 (fl m3.a) (fl m3.b),Value.int .i64 m3.c]:Array Value)[o]?:=fun o=>(Az o).trans (by go_simp)
 have Fo:∀o,w1.frozen? ⟨w.heap.size+1,o,none⟩=false:=fun o=>(Bh o).trans (by go_simp)
 clear Az Bh
 have Fb:∀o,w1.cell? ⟨w.heap.size+1+1,o,none⟩=(#[Value.complex .f64 0 0,Value.int .i64 0,Value.complex .f64 0 0,Value.int .i64 0,Value.complex .f64 0 0,Value.int .i64 0,Value.complex .f64 0 0,Value.int .i64 0]:Array Value)[o]?:=fun o=>(B0 o).trans (by go_simp)
 have Fp:∀o,w1.frozen? ⟨w.heap.size+1+1,o,none⟩=false:=fun o=>(Bi o).trans (by go_simp)
 clear B0 Bi
 replace Aq:=cas5 Aq [.complex .f64 0 0,.int .i64 0,.complex .f64 0 0,.int .i64 0,.complex .f64 0 0,.int .i64 0,.complex .f64 0 0,.int .i64 0]
 simp only[CAf,Nat.reduceAdd,and_true]at Aq
 go_wp2_with fail
 refine turn (fun i=>i==16||i==17) 19 (by kernel_rfl) (by kernel_rfl) (St.cell (St.turn Ab (Trn.kp Bz kpw))) fun hG => ?_
 have A8:=fun o=>hG (w.heap.size) lto o (ne_addr (by omega))
 have A6:=fun o=>hG (w.heap.size+1) lto o (ne_addr (by omega))
 have A4:=fun o=>hG (w.heap.size+1+1) lto o (ne_addr (by omega))
 have A7:=fun o=>hG (w.heap.size+1+1+1) lto o (ne_addr (by omega))
 have Ae:=fun o=>hG (B1) lto o (ne_addr (by omega))
 have A2:=fun o=>hG B lto (o+1) ne_off
 clear hG
 simp only[List.take_succ_cons,List.take_zero,List.drop_succ_cons,List.drop_zero]
 repeat (first|(refine wpTurn_pure rfl (fun K hK => ?_);go_simp;first|(refine hK _ _ ?_;clear hK K)|(apply Exists.intro;refine⟨fun _ _ => ?_,hK _ _ ?_⟩;(first|fail);clear hK K))|(refine wpTurn_eff rfl (fun K hK => ?_);go_simp;(first|(first|with_reducible refine⟨_,_,fun _=>tur_st (St.turn Ab (Trn.kp Bz kpw)) (fun w h=>TY0.out w h),?_⟩|with_reducible refine⟨_,_,fun _=>tur_st (St.turn Ab (Trn.kp Bz kpw)) (fun w h=>TO0.out w h),?_⟩));refine hK _ _ ?_;clear hK K))
 refine wpTurn_nil ?_
 intro w2 Ac
 clear A2 A8 A6 A4 A7 Ae
 have Ct:=Ac.size_le
 (try simp at Ct)
 obtain⟨Hq,Hj,Hc,Ce,Cl⟩:=tn5 Ac (w.heap.size)
 obtain⟨Ew,Ei,E4,B5,Bj⟩:=tn5 Ac (w.heap.size+1)
 obtain⟨Ex,Ej,E5,B6,Bk⟩:=tn5 Ac (w.heap.size+1+1)
 have At:=tn5 Ac (w.heap.size+1+1+1)
 have G8:=tn5 Ac (B1)
 obtain⟨C6,K1,K7,Ke,Ge,G6⟩:=pkx Ai Bz kpw Ac
 (try clear G4 Hw)
 go_wp2_with fail
 rw[rounds_succ]
 have I6:∀o,w2.cell? ⟨w.heap.size,o,none⟩=(#[Value.complex .f64 (fl p0.a) (fl p0.b),Value.int .i64 p0.c,Value.complex .f64 (fl p1.a) (fl p1.b),Value.int .i64 p1.c,Value.complex .f64 (fl p2.a) (fl p2.b),Value.int .i64 p2.c,Value.complex .f64 (fl p3.a) (fl p3.b),Value.int .i64 p3.c]:Array Value)[o]?:=fun o=>(Ce o).trans (by go_simp)
 have Id:∀o,w2.frozen? ⟨w.heap.size,o,none⟩=false:=fun o=>(Cl o).trans (by go_simp)
 clear Ce Cl
 have Fc:∀o,w2.cell? ⟨w.heap.size+1,o,none⟩=(#[Value.complex .f64 (fl m0.a) (fl m0.b),Value.int .i64 m0.c,Value.complex .f64 (fl m1.a) (fl m1.b),Value.int .i64 m1.c,Value.complex .f64 (fl m2.a) (fl m2.b),Value.int .i64 m2.c,Value.complex .f64 (fl m3.a) (fl m3.b),Value.int .i64 m3.c]:Array Value)[o]?:=fun o=>(B5 o).trans (by go_simp)
 have Fq:∀o,w2.frozen? ⟨w.heap.size+1,o,none⟩=false:=fun o=>(Bj o).trans (by go_simp)
 clear B5 Bj
 have Fd:∀o,w2.cell? ⟨w.heap.size+1+1,o,none⟩=(#[Value.complex .f64 0 0,Value.int .i64 0,Value.complex .f64 0 0,Value.int .i64 0,Value.complex .f64 0 0,Value.int .i64 0,Value.complex .f64 0 0,Value.int .i64 0]:Array Value)[o]?:=fun o=>(B6 o).trans (by go_simp)
 have Fr:∀o,w2.frozen? ⟨w.heap.size+1+1,o,none⟩=false:=fun o=>(Bk o).trans (by go_simp)
 clear B6 Bk
 replace At:=cas5 At [.complex .f64 0 0,.int .i64 0,.complex .f64 0 0,.int .i64 0,.complex .f64 0 0,.int .i64 0,.complex .f64 0 0,.int .i64 0]
 simp only[CAf,Nat.reduceAdd,and_true]at At
 (try clear Cd Ck Hp Hi Hb Ic I5 Az Bh Eu Eg E2 Fo Fa B0 Bi Ev Eh E3 Fp Fb Aq)
 go_wp2_with fail
 refine turn_new (fun i=>i==9) 10 #[.complex .f64 0 0,.int .i64 0] 57 _ rfl (by kernel_rfl) (by kernel_rfl) (by first|omega|(simp;omega)) (St.cell (St.turn Ab (Trn.kp C6 kpw))) (fun a w=>by kernel_rfl) fun hG => ?_
 have A8:=fun o=>hG (w.heap.size) lto o (ne_addr (by omega))
 have A6:=fun o=>hG (w.heap.size+1) lto o (ne_addr (by omega))
 have A4:=fun o=>hG (w.heap.size+1+1) lto o (ne_addr (by omega))
 have A7:=fun o=>hG (w.heap.size+1+1+1) lto o (ne_addr (by omega))
 have Ae:=fun o=>hG (B1) lto o (ne_addr (by omega))
 have A2:=fun o=>hG B lto (o+1) ne_off
 clear hG
 simp only[List.take_succ_cons,List.take_zero,List.drop_succ_cons,List.drop_zero]
 repeat (first|(refine wpTurn_pure rfl (fun K hK => ?_);go_simp;first|(refine hK _ _ ?_;clear hK K)|(apply Exists.intro;refine⟨fun _ _ => ?_,hK _ _ ?_⟩;(first|fail);clear hK K))|(refine wpTurn_eff rfl (fun K hK => ?_);go_simp;(first|(with_reducible refine⟨_,_,fun _=>tur_st (St.turn Ab (Trn.kp C6 kpw)) (fun w h=>TX1.out w h),?_⟩));refine hK _ _ ?_;clear hK K))
 refine wpTurn_nil ?_
 intro B2 w3 hN
 obtain⟨A9,A0,It,Kj,Kn⟩:=hN
 (try simp at A0)
 clear A2 A8 A6 A4 A7 Ae
 have Cu:=A9.size_le
 (try simp at Cu)
 obtain⟨Hr,Hk,Hd,Cf,Cm⟩:=tn5 A9 (w.heap.size)
 obtain⟨Ey,Ek,E6,B7,Bl⟩:=tn5 A9 (w.heap.size+1)
 obtain⟨Ez,El,E7,B8,Bm⟩:=tn5 A9 (w.heap.size+1+1)
 have Au:=tn5 A9 (w.heap.size+1+1+1)
 have Cx:=tn5 A9 (B1)
 obtain⟨C7,K2,K8,Kf,Gf,G9⟩:=pkx Ai C6 kpw A9
 (try clear G6 Ge)
 have H8:¬B2=w.heap.size:=by first|omega|(simp at A0;omega)
 have H4:¬w.heap.size=B2:=by first|omega|(simp at A0;omega)
 have Dt:¬B2=w.heap.size+1:=by first|omega|(simp at A0;omega)
 have Dg:¬w.heap.size+1=B2:=by first|omega|(simp at A0;omega)
 have Du:¬B2=w.heap.size+1+1:=by first|omega|(simp at A0;omega)
 have Dh:¬w.heap.size+1+1=B2:=by first|omega|(simp at A0;omega)
 have Jg:¬B2=w.heap.size+1+1+1:=by first|omega|(simp at A0;omega)
 have J7:¬w.heap.size+1+1+1=B2:=by first|omega|(simp at A0;omega)
 have Dv:¬B2=B1:=by first|omega|(simp at A0;omega)
 have Di:¬B1=B2:=by first|omega|(simp at A0;omega)
 have Ds:¬B2=B:=by first|omega|(simp at A0;omega)
 have Df:¬B=B2:=by first|omega|(simp at A0;omega)
 have I7:∀o,w3.cell? ⟨w.heap.size,o,none⟩=(#[Value.complex .f64 (fl p0.a) (fl p0.b),Value.int .i64 p0.c,Value.complex .f64 (fl p1.a) (fl p1.b),Value.int .i64 p1.c,Value.complex .f64 (fl p2.a) (fl p2.b),Value.int .i64 p2.c,Value.complex .f64 (fl p3.a) (fl p3.b),Value.int .i64 p3.c]:Array Value)[o]?:=fun o=>(Cf o).trans (by go_simp)
 have Ie:∀o,w3.frozen? ⟨w.heap.size,o,none⟩=false:=fun o=>(Cm o).trans (by go_simp)
 clear Cf Cm
 have Fe:∀o,w3.cell? ⟨w.heap.size+1,o,none⟩=(#[Value.complex .f64 (fl m0.a) (fl m0.b),Value.int .i64 m0.c,Value.complex .f64 (fl m1.a) (fl m1.b),Value.int .i64 m1.c,Value.complex .f64 (fl m2.a) (fl m2.b),Value.int .i64 m2.c,Value.complex .f64 (fl m3.a) (fl m3.b),Value.int .i64 m3.c]:Array Value)[o]?:=fun o=>(B7 o).trans (by go_simp)
 have Fs:∀o,w3.frozen? ⟨w.heap.size+1,o,none⟩=false:=fun o=>(Bl o).trans (by go_simp)
 clear B7 Bl
 have Ff:∀o,w3.cell? ⟨w.heap.size+1+1,o,none⟩=(#[Value.complex .f64 0 0,Value.int .i64 0,Value.complex .f64 0 0,Value.int .i64 0,Value.complex .f64 0 0,Value.int .i64 0,Value.complex .f64 0 0,Value.int .i64 0]:Array Value)[o]?:=fun o=>(B8 o).trans (by go_simp)
 have Ft:∀o,w3.frozen? ⟨w.heap.size+1+1,o,none⟩=false:=fun o=>(Bm o).trans (by go_simp)
 clear B8 Bm
 replace Au:=cas5 Au [.complex .f64 (fl O0.a) (fl O0.b),.int .i64 O0.c,.complex .f64 0 0,.int .i64 0,.complex .f64 0 0,.int .i64 0,.complex .f64 0 0,.int .i64 0]
 simp only[CAf,Nat.reduceAdd,and_true]at Au
 (try clear Ce Cl Hq Hj Hc Id I6 B5 Bj Ew Ei E4 Fq Fc B6 Bk Ex Ej E5 Fr Fd At G8)
 go_wp2_with fail
 refine turn (fun i=>i==16||i==17) 19 (by kernel_rfl) (by kernel_rfl) (St.cell (St.turn Ab (Trn.kp C7 kpw))) fun hG => ?_
 have A8:=fun o=>hG (w.heap.size) lto o (ne_addr (by omega))
 have A6:=fun o=>hG (w.heap.size+1) lto o (ne_addr (by omega))
 have A4:=fun o=>hG (w.heap.size+1+1) lto o (ne_addr (by omega))
 have A7:=fun o=>hG (w.heap.size+1+1+1) lto o (ne_addr (by omega))
 have An:=fun o=>hG (B2) lto o (ne_addr (by omega))
 have A2:=fun o=>hG B lto (o+1) ne_off
 clear hG
 simp only[List.take_succ_cons,List.take_zero,List.drop_succ_cons,List.drop_zero]
 repeat (first|(refine wpTurn_pure rfl (fun K hK => ?_);go_simp;first|(refine hK _ _ ?_;clear hK K)|(apply Exists.intro;refine⟨fun _ _ => ?_,hK _ _ ?_⟩;(first|fail);clear hK K))|(refine wpTurn_eff rfl (fun K hK => ?_);go_simp;(first|(first|with_reducible refine⟨_,_,fun _=>tur_st (St.turn Ab (Trn.kp C7 kpw)) (fun w h=>TY1.out w h),?_⟩|with_reducible refine⟨_,_,fun _=>tur_st (St.turn Ab (Trn.kp C7 kpw)) (fun w h=>TO1.out w h),?_⟩));refine hK _ _ ?_;clear hK K))
 refine wpTurn_nil ?_
 intro w4 Ad
 clear A2 A8 A6 A4 A7 An
 have Cv:=Ad.size_le
 (try simp at Cv)
 obtain⟨Hs,Hl,He,Cg,Cn⟩:=tn5 Ad (w.heap.size)
 obtain⟨F0,Em,E8,B9,Bn⟩:=tn5 Ad (w.heap.size+1)
 obtain⟨F1,En,E9,Ba,Bo⟩:=tn5 Ad (w.heap.size+1+1)
 have Av:=tn5 Ad (w.heap.size+1+1+1)
 have Cy:=tn5 Ad (B2)
 obtain⟨Cc,K3,K9,Kg,Gg,Gb⟩:=pkx Ai C7 kpw Ad
 (try clear G9 Gf)
 go_wp2_with fail
 rw[rounds_succ]
 have I8:∀o,w4.cell? ⟨w.heap.size,o,none⟩=(#[Value.complex .f64 (fl p0.a) (fl p0.b),Value.int .i64 p0.c,Value.complex .f64 (fl p1.a) (fl p1.b),Value.int .i64 p1.c,Value.complex .f64 (fl p2.a) (fl p2.b),Value.int .i64 p2.c,Value.complex .f64 (fl p3.a) (fl p3.b),Value.int .i64 p3.c]:Array Value)[o]?:=fun o=>(Cg o).trans (by go_simp)
 have If:∀o,w4.frozen? ⟨w.heap.size,o,none⟩=false:=fun o=>(Cn o).trans (by go_simp)
 clear Cg Cn
 have Fg:∀o,w4.cell? ⟨w.heap.size+1,o,none⟩=(#[Value.complex .f64 (fl m0.a) (fl m0.b),Value.int .i64 m0.c,Value.complex .f64 (fl m1.a) (fl m1.b),Value.int .i64 m1.c,Value.complex .f64 (fl m2.a) (fl m2.b),Value.int .i64 m2.c,Value.complex .f64 (fl m3.a) (fl m3.b),Value.int .i64 m3.c]:Array Value)[o]?:=fun o=>(B9 o).trans (by go_simp)
 have Fu:∀o,w4.frozen? ⟨w.heap.size+1,o,none⟩=false:=fun o=>(Bn o).trans (by go_simp)
 clear B9 Bn
 have Fh:∀o,w4.cell? ⟨w.heap.size+1+1,o,none⟩=(#[Value.complex .f64 0 0,Value.int .i64 0,Value.complex .f64 0 0,Value.int .i64 0,Value.complex .f64 0 0,Value.int .i64 0,Value.complex .f64 0 0,Value.int .i64 0]:Array Value)[o]?:=fun o=>(Ba o).trans (by go_simp)
 have Fv:∀o,w4.frozen? ⟨w.heap.size+1+1,o,none⟩=false:=fun o=>(Bo o).trans (by go_simp)
 clear Ba Bo
 replace Av:=cas5 Av [.complex .f64 (fl O0.a) (fl O0.b),.int .i64 O0.c,.complex .f64 0 0,.int .i64 0,.complex .f64 0 0,.int .i64 0,.complex .f64 0 0,.int .i64 0]
 simp only[CAf,Nat.reduceAdd,and_true]at Av
 (try clear Cf Cm Hr Hk Hd Ie I7 B7 Bl Ey Ek E6 Fs Fe B8 Bm Ez El E7 Ft Ff Au Cx)
 go_wp2_with fail
 refine turn_new (fun i=>i==9) 10 #[.complex .f64 0 0,.int .i64 0] 57 _ rfl (by kernel_rfl) (by kernel_rfl) (by first|omega|(simp;omega)) (St.cell (St.turn Ab (Trn.kp Cc kpw))) (fun a w=>by kernel_rfl) fun hG => ?_
 have A8:=fun o=>hG (w.heap.size) lto o (ne_addr (by omega))
 have A6:=fun o=>hG (w.heap.size+1) lto o (ne_addr (by omega))
 have A4:=fun o=>hG (w.heap.size+1+1) lto o (ne_addr (by omega))
 have A7:=fun o=>hG (w.heap.size+1+1+1) lto o (ne_addr (by omega))
 have An:=fun o=>hG (B2) lto o (ne_addr (by omega))
 have A2:=fun o=>hG B lto (o+1) ne_off
 clear hG
 simp only[List.take_succ_cons,List.take_zero,List.drop_succ_cons,List.drop_zero]
 repeat (first|(refine wpTurn_pure rfl (fun K hK => ?_);go_simp;first|(refine hK _ _ ?_;clear hK K)|(apply Exists.intro;refine⟨fun _ _ => ?_,hK _ _ ?_⟩;(first|fail);clear hK K))|(refine wpTurn_eff rfl (fun K hK => ?_);go_simp;(first|(with_reducible refine⟨_,_,fun _=>tur_st (St.turn Ab (Trn.kp Cc kpw)) (fun w h=>TX2.out w h),?_⟩));refine hK _ _ ?_;clear hK K))
 refine wpTurn_nil ?_
 intro B3 w5 hN
 obtain⟨Aa,A3,Iu,Kk,Ko⟩:=hN
 (try simp at A3)
 clear A2 A8 A6 A4 A7 An
 have Cw:=Aa.size_le
 (try simp at Cw)
 obtain⟨Ht,Hm,Hf,Ch,Co⟩:=tn5 Aa (w.heap.size)
 obtain⟨F2,Eo,Ea,Bb,Bp⟩:=tn5 Aa (w.heap.size+1)
 obtain⟨F3,Ep,Eb,Bc,Bq⟩:=tn5 Aa (w.heap.size+1+1)
 have Aw:=tn5 Aa (w.heap.size+1+1+1)
 have Cz:=tn5 Aa (B2)
 obtain⟨Db,K4,Ka,Kh,J5,J3⟩:=pkx Ai Cc kpw Aa
 (try clear Gb Gg)
 have H9:¬B3=w.heap.size:=by first|omega|(simp at A3;omega)
 have H5:¬w.heap.size=B3:=by first|omega|(simp at A3;omega)
 have Jh:¬B3=w.heap.size+1:=by first|omega|(simp at A3;omega)
 have J8:¬w.heap.size+1=B3:=by first|omega|(simp at A3;omega)
 have Dx:¬B3=w.heap.size+1+1:=by first|omega|(simp at A3;omega)
 have Dk:¬w.heap.size+1+1=B3:=by first|omega|(simp at A3;omega)
 have Ji:¬B3=w.heap.size+1+1+1:=by first|omega|(simp at A3;omega)
 have J9:¬w.heap.size+1+1+1=B3:=by first|omega|(simp at A3;omega)
 have Dy:¬B3=B2:=by first|omega|(simp at A3;omega)
 have Dl:¬B2=B3:=by first|omega|(simp at A3;omega)
 have Dw:¬B3=B:=by first|omega|(simp at A3;omega)
 have Dj:¬B=B3:=by first|omega|(simp at A3;omega)
 have I9:∀o,w5.cell? ⟨w.heap.size,o,none⟩=(#[Value.complex .f64 (fl p0.a) (fl p0.b),Value.int .i64 p0.c,Value.complex .f64 (fl p1.a) (fl p1.b),Value.int .i64 p1.c,Value.complex .f64 (fl p2.a) (fl p2.b),Value.int .i64 p2.c,Value.complex .f64 (fl p3.a) (fl p3.b),Value.int .i64 p3.c]:Array Value)[o]?:=fun o=>(Ch o).trans (by go_simp)
 have Ig:∀o,w5.frozen? ⟨w.heap.size,o,none⟩=false:=fun o=>(Co o).trans (by go_simp)
 clear Ch Co
 have Fi:∀o,w5.cell? ⟨w.heap.size+1,o,none⟩=(#[Value.complex .f64 (fl m0.a) (fl m0.b),Value.int .i64 m0.c,Value.complex .f64 (fl m1.a) (fl m1.b),Value.int .i64 m1.c,Value.complex .f64 (fl m2.a) (fl m2.b),Value.int .i64 m2.c,Value.complex .f64 (fl m3.a) (fl m3.b),Value.int .i64 m3.c]:Array Value)[o]?:=fun o=>(Bb o).trans (by go_simp)
 have Fw:∀o,w5.frozen? ⟨w.heap.size+1,o,none⟩=false:=fun o=>(Bp o).trans (by go_simp)
 clear Bb Bp
 have Fj:∀o,w5.cell? ⟨w.heap.size+1+1,o,none⟩=(#[Value.complex .f64 0 0,Value.int .i64 0,Value.complex .f64 0 0,Value.int .i64 0,Value.complex .f64 0 0,Value.int .i64 0,Value.complex .f64 0 0,Value.int .i64 0]:Array Value)[o]?:=fun o=>(Bc o).trans (by go_simp)
 have Fx:∀o,w5.frozen? ⟨w.heap.size+1+1,o,none⟩=false:=fun o=>(Bq o).trans (by go_simp)
 clear Bc Bq
 replace Aw:=cas5 Aw [.complex .f64 (fl O0.a) (fl O0.b),.int .i64 O0.c,.complex .f64 (fl O1.a) (fl O1.b),.int .i64 O1.c,.complex .f64 0 0,.int .i64 0,.complex .f64 0 0,.int .i64 0]
 simp only[CAf,Nat.reduceAdd,and_true]at Aw
 (try clear Cg Cn Hs Hl He If I8 B9 Bn F0 Em E8 Fu Fg Ba Bo F1 En E9 Fv Fh Av Cy)
 go_wp2_with fail
 refine turn (fun i=>i==16||i==17) 19 (by kernel_rfl) (by kernel_rfl) (St.cell (St.turn Ab (Trn.kp Db kpw))) fun hG => ?_
 have A8:=fun o=>hG (w.heap.size) lto o (ne_addr (by omega))
 have A6:=fun o=>hG (w.heap.size+1) lto o (ne_addr (by omega))
 have A4:=fun o=>hG (w.heap.size+1+1) lto o (ne_addr (by omega))
 have A7:=fun o=>hG (w.heap.size+1+1+1) lto o (ne_addr (by omega))
 have C0:=fun o=>hG (B3) lto o (ne_addr (by omega))
 have A2:=fun o=>hG B lto (o+1) ne_off
 clear hG
 simp only[List.take_succ_cons,List.take_zero,List.drop_succ_cons,List.drop_zero]
 repeat (first|(refine wpTurn_pure rfl (fun K hK => ?_);go_simp;first|(refine hK _ _ ?_;clear hK K)|(apply Exists.intro;refine⟨fun _ _ => ?_,hK _ _ ?_⟩;(first|fail);clear hK K))|(refine wpTurn_eff rfl (fun K hK => ?_);go_simp;(first|(first|with_reducible refine⟨_,_,fun _=>tur_st (St.turn Ab (Trn.kp Db kpw)) (fun w h=>TY2.out w h),?_⟩|with_reducible refine⟨_,_,fun _=>tur_st (St.turn Ab (Trn.kp Db kpw)) (fun w h=>TO2.out w h),?_⟩));refine hK _ _ ?_;clear hK K))
 refine wpTurn_nil ?_
 intro w6 C1
 clear A2 A8 A6 A4 A7 C0
 have Kv:=C1.size_le
 (try simp at Kv)
 obtain⟨Hu,Hn,Hg,Ci,Cp⟩:=tn5 C1 (w.heap.size)
 obtain⟨F4,Eq,Ec,Bd,Br⟩:=tn5 C1 (w.heap.size+1)
 obtain⟨F5,Er,Ed,Be,Bs⟩:=tn5 C1 (w.heap.size+1+1)
 have Ax:=tn5 C1 (w.heap.size+1+1+1)
 have Gc:=tn5 C1 (B3)
 obtain⟨In,Mf,Mi,Mm,Lx,Lv⟩:=pkx Ai Db kpw C1
 (try clear J3 J5)
 go_wp2_with fail
 rw[rounds_succ]
 have Ia:∀o,w6.cell? ⟨w.heap.size,o,none⟩=(#[Value.complex .f64 (fl p0.a) (fl p0.b),Value.int .i64 p0.c,Value.complex .f64 (fl p1.a) (fl p1.b),Value.int .i64 p1.c,Value.complex .f64 (fl p2.a) (fl p2.b),Value.int .i64 p2.c,Value.complex .f64 (fl p3.a) (fl p3.b),Value.int .i64 p3.c]:Array Value)[o]?:=fun o=>(Ci o).trans (by go_simp)
 have Ih:∀o,w6.frozen? ⟨w.heap.size,o,none⟩=false:=fun o=>(Cp o).trans (by go_simp)
 clear Ci Cp
 have Fk:∀o,w6.cell? ⟨w.heap.size+1,o,none⟩=(#[Value.complex .f64 (fl m0.a) (fl m0.b),Value.int .i64 m0.c,Value.complex .f64 (fl m1.a) (fl m1.b),Value.int .i64 m1.c,Value.complex .f64 (fl m2.a) (fl m2.b),Value.int .i64 m2.c,Value.complex .f64 (fl m3.a) (fl m3.b),Value.int .i64 m3.c]:Array Value)[o]?:=fun o=>(Bd o).trans (by go_simp)
 have Fy:∀o,w6.frozen? ⟨w.heap.size+1,o,none⟩=false:=fun o=>(Br o).trans (by go_simp)
 clear Bd Br
 have Fl:∀o,w6.cell? ⟨w.heap.size+1+1,o,none⟩=(#[Value.complex .f64 0 0,Value.int .i64 0,Value.complex .f64 0 0,Value.int .i64 0,Value.complex .f64 0 0,Value.int .i64 0,Value.complex .f64 0 0,Value.int .i64 0]:Array Value)[o]?:=fun o=>(Be o).trans (by go_simp)
 have Fz:∀o,w6.frozen? ⟨w.heap.size+1+1,o,none⟩=false:=fun o=>(Bs o).trans (by go_simp)
 clear Be Bs
 replace Ax:=cas5 Ax [.complex .f64 (fl O0.a) (fl O0.b),.int .i64 O0.c,.complex .f64 (fl O1.a) (fl O1.b),.int .i64 O1.c,.complex .f64 0 0,.int .i64 0,.complex .f64 0 0,.int .i64 0]
 simp only[CAf,Nat.reduceAdd,and_true]at Ax
 (try clear Ch Co Ht Hm Hf Ig I9 Bb Bp F2 Eo Ea Fw Fi Bc Bq F3 Ep Eb Fx Fj Aw Cz)
 go_wp2_with fail
 refine turn_new (fun i=>i==9) 10 #[.complex .f64 0 0,.int .i64 0] 57 _ rfl (by kernel_rfl) (by kernel_rfl) (by first|omega|(simp;omega)) (St.cell (St.turn Ab (Trn.kp In kpw))) (fun a w=>by kernel_rfl) fun hG => ?_
 have A8:=fun o=>hG (w.heap.size) lto o (ne_addr (by omega))
 have A6:=fun o=>hG (w.heap.size+1) lto o (ne_addr (by omega))
 have A4:=fun o=>hG (w.heap.size+1+1) lto o (ne_addr (by omega))
 have A7:=fun o=>hG (w.heap.size+1+1+1) lto o (ne_addr (by omega))
 have C0:=fun o=>hG (B3) lto o (ne_addr (by omega))
 have A2:=fun o=>hG B lto (o+1) ne_off
 clear hG
 simp only[List.take_succ_cons,List.take_zero,List.drop_succ_cons,List.drop_zero]
 repeat (first|(refine wpTurn_pure rfl (fun K hK => ?_);go_simp;first|(refine hK _ _ ?_;clear hK K)|(apply Exists.intro;refine⟨fun _ _ => ?_,hK _ _ ?_⟩;(first|fail);clear hK K))|(refine wpTurn_eff rfl (fun K hK => ?_);go_simp;(first|(with_reducible refine⟨_,_,fun _=>tur_st (St.turn Ab (Trn.kp In kpw)) (fun w h=>TX3.out w h),?_⟩));refine hK _ _ ?_;clear hK K))
 refine wpTurn_nil ?_
 intro B4 w7 hN
 obtain⟨C2,A1,Iv,Kl,Kp⟩:=hN
 (try simp at A1)
 clear A2 A8 A6 A4 A7 C0
 have Kw:=C2.size_le
 (try simp at Kw)
 obtain⟨Hv,Ho,Hh,Cj,Cq⟩:=tn5 C2 (w.heap.size)
 obtain⟨F6,Es,Ee,Bf,Bt⟩:=tn5 C2 (w.heap.size+1)
 obtain⟨F7,Et,Ef,Bg,Bu⟩:=tn5 C2 (w.heap.size+1+1)
 have Ay:=tn5 C2 (w.heap.size+1+1+1)
 have Gd:=tn5 C2 (B3)
 obtain⟨H0,Mg,Mj,Mn,Ly,Lw⟩:=pkx Ai In kpw C2
 (try clear Lv Lx)
 have Ha:¬B4=w.heap.size:=by first|omega|(simp at A1;omega)
 have H6:¬w.heap.size=B4:=by first|omega|(simp at A1;omega)
 have Jk:¬B4=w.heap.size+1:=by first|omega|(simp at A1;omega)
 have Jb:¬w.heap.size+1=B4:=by first|omega|(simp at A1;omega)
 have E0:¬B4=w.heap.size+1+1:=by first|omega|(simp at A1;omega)
 have Dn:¬w.heap.size+1+1=B4:=by first|omega|(simp at A1;omega)
 have Jl:¬B4=w.heap.size+1+1+1:=by first|omega|(simp at A1;omega)
 have Jc:¬w.heap.size+1+1+1=B4:=by first|omega|(simp at A1;omega)
 have E1:¬B4=B3:=by first|omega|(simp at A1;omega)
 have Do:¬B3=B4:=by first|omega|(simp at A1;omega)
 have Dz:¬B4=B:=by first|omega|(simp at A1;omega)
 have Dm:¬B=B4:=by first|omega|(simp at A1;omega)
 have Ib:∀o,w7.cell? ⟨w.heap.size,o,none⟩=(#[Value.complex .f64 (fl p0.a) (fl p0.b),Value.int .i64 p0.c,Value.complex .f64 (fl p1.a) (fl p1.b),Value.int .i64 p1.c,Value.complex .f64 (fl p2.a) (fl p2.b),Value.int .i64 p2.c,Value.complex .f64 (fl p3.a) (fl p3.b),Value.int .i64 p3.c]:Array Value)[o]?:=fun o=>(Cj o).trans (by go_simp)
 have Ii:∀o,w7.frozen? ⟨w.heap.size,o,none⟩=false:=fun o=>(Cq o).trans (by go_simp)
 clear Cj Cq
 have Fm:∀o,w7.cell? ⟨w.heap.size+1,o,none⟩=(#[Value.complex .f64 (fl m0.a) (fl m0.b),Value.int .i64 m0.c,Value.complex .f64 (fl m1.a) (fl m1.b),Value.int .i64 m1.c,Value.complex .f64 (fl m2.a) (fl m2.b),Value.int .i64 m2.c,Value.complex .f64 (fl m3.a) (fl m3.b),Value.int .i64 m3.c]:Array Value)[o]?:=fun o=>(Bf o).trans (by go_simp)
 have G0:∀o,w7.frozen? ⟨w.heap.size+1,o,none⟩=false:=fun o=>(Bt o).trans (by go_simp)
 clear Bf Bt
 have Fn:∀o,w7.cell? ⟨w.heap.size+1+1,o,none⟩=(#[Value.complex .f64 0 0,Value.int .i64 0,Value.complex .f64 0 0,Value.int .i64 0,Value.complex .f64 0 0,Value.int .i64 0,Value.complex .f64 0 0,Value.int .i64 0]:Array Value)[o]?:=fun o=>(Bg o).trans (by go_simp)
 have G1:∀o,w7.frozen? ⟨w.heap.size+1+1,o,none⟩=false:=fun o=>(Bu o).trans (by go_simp)
 clear Bg Bu
 replace Ay:=cas5 Ay [.complex .f64 (fl O0.a) (fl O0.b),.int .i64 O0.c,.complex .f64 (fl O1.a) (fl O1.b),.int .i64 O1.c,.complex .f64 (fl O2.a) (fl O2.b),.int .i64 O2.c,.complex .f64 0 0,.int .i64 0]
 simp only[CAf,Nat.reduceAdd,and_true]at Ay
 (try clear Ci Cp Hu Hn Hg Ih Ia Bd Br F4 Eq Ec Fy Fk Be Bs F5 Er Ed Fz Fl Ax Gc)
 go_wp2_with fail
 refine turn (fun i=>i==16||i==17) 19 (by kernel_rfl) (by kernel_rfl) (St.cell (St.turn Ab (Trn.kp H0 kpw))) fun hG => ?_
 have A8:=fun o=>hG (w.heap.size) lto o (ne_addr (by omega))
 have A6:=fun o=>hG (w.heap.size+1) lto o (ne_addr (by omega))
 have A4:=fun o=>hG (w.heap.size+1+1) lto o (ne_addr (by omega))
 have A7:=fun o=>hG (w.heap.size+1+1+1) lto o (ne_addr (by omega))
 have Iq:=fun o=>hG (B4) lto o (ne_addr (by omega))
 have A2:=fun o=>hG B lto (o+1) ne_off
 clear hG
 simp only[List.take_succ_cons,List.take_zero,List.drop_succ_cons,List.drop_zero]
 repeat (first|(refine wpTurn_pure rfl (fun K hK => ?_);go_simp;first|(refine hK _ _ ?_;clear hK K)|(apply Exists.intro;refine⟨fun _ _ => ?_,hK _ _ ?_⟩;(first|fail);clear hK K))|(refine wpTurn_eff rfl (fun K hK => ?_);go_simp;(first|(first|with_reducible refine⟨_,_,fun _=>tur_st (St.turn Ab (Trn.kp H0 kpw)) (fun w h=>TY3.out w h),?_⟩|with_reducible refine⟨_,_,fun _=>tur_st (St.turn Ab (Trn.kp H0 kpw)) (fun w h=>TO3.out w h),?_⟩));refine hK _ _ ?_;clear hK K))
 refine wpTurn_nil ?_
 intro w8 C3
 clear A2 A8 A6 A4 A7 Iq
 have Kx:=C3.size_le
 (try simp at Kx)
 obtain⟨Ln,Lm,Ll,D9,Da⟩:=tn5 C3 (w.heap.size)
 obtain⟨Js,Jq,Jo,C8,Ca⟩:=tn5 C3 (w.heap.size+1)
 obtain⟨Jt,Jr,Jp,C9,Cb⟩:=tn5 C3 (w.heap.size+1+1)
 have C5:=tn5 C3 (w.heap.size+1+1+1)
 have La:=tn5 C3 (B4)
 obtain⟨Ml,Mh,Mk,Mo,Mr,Mq⟩:=pkx Ai H0 kpw C3
 (try clear Lw Ly)
 go_wp2_with fail
 rw[rounds_succ]
 have Lq:∀o,w8.cell? ⟨w.heap.size,o,none⟩=(#[Value.complex .f64 (fl p0.a) (fl p0.b),Value.int .i64 p0.c,Value.complex .f64 (fl p1.a) (fl p1.b),Value.int .i64 p1.c,Value.complex .f64 (fl p2.a) (fl p2.b),Value.int .i64 p2.c,Value.complex .f64 (fl p3.a) (fl p3.b),Value.int .i64 p3.c]:Array Value)[o]?:=fun o=>(D9 o).trans (by go_simp)
 have Lr:∀o,w8.frozen? ⟨w.heap.size,o,none⟩=false:=fun o=>(Da o).trans (by go_simp)
 clear D9 Da
 have Jw:∀o,w8.cell? ⟨w.heap.size+1,o,none⟩=(#[Value.complex .f64 (fl m0.a) (fl m0.b),Value.int .i64 m0.c,Value.complex .f64 (fl m1.a) (fl m1.b),Value.int .i64 m1.c,Value.complex .f64 (fl m2.a) (fl m2.b),Value.int .i64 m2.c,Value.complex .f64 (fl m3.a) (fl m3.b),Value.int .i64 m3.c]:Array Value)[o]?:=fun o=>(C8 o).trans (by go_simp)
 have Jy:∀o,w8.frozen? ⟨w.heap.size+1,o,none⟩=false:=fun o=>(Ca o).trans (by go_simp)
 clear C8 Ca
 have Jx:∀o,w8.cell? ⟨w.heap.size+1+1,o,none⟩=(#[Value.complex .f64 0 0,Value.int .i64 0,Value.complex .f64 0 0,Value.int .i64 0,Value.complex .f64 0 0,Value.int .i64 0,Value.complex .f64 0 0,Value.int .i64 0]:Array Value)[o]?:=fun o=>(C9 o).trans (by go_simp)
 have Jz:∀o,w8.frozen? ⟨w.heap.size+1+1,o,none⟩=false:=fun o=>(Cb o).trans (by go_simp)
 clear C9 Cb
 replace C5:=cas5 C5 [.complex .f64 (fl O0.a) (fl O0.b),.int .i64 O0.c,.complex .f64 (fl O1.a) (fl O1.b),.int .i64 O1.c,.complex .f64 (fl O2.a) (fl O2.b),.int .i64 O2.c,.complex .f64 0 0,.int .i64 0]
 simp only[CAf,Nat.reduceAdd,and_true]at C5
 (try clear Cj Cq Hv Ho Hh Ii Ib Bf Bt F6 Es Ee G0 Fm Bg Bu F7 Et Ef G1 Fn Ay Gd)
 repeat' (first|go_values|go_skip|go_guarded|go_step|go_upon|(simp only[];go_simp))
 refine bodyPost_ret (by simp[results,Tryz.results155,go_sem, *];first|done|rfl) rfl ?_
 exact⟨rfl,trw⟩
theorem mul_any (B:Nat) (e:Int) (A:Ask) (p m:Mat) (hp:p.fine) (hm:m.fine) (w:World) (Ai:Lt B e A w) :
  Calls Tryz.prog 155 #[.pointer (some ⟨B,0,none⟩),.agg p.cells,.agg m.cells] w fun E w'=>E = .returned (.agg (mulR e p m).1.cells)∧Trn B (mulR e p m).2 w w':=by
 obtain⟨p0,p1,p2,p3⟩:=p
 obtain⟨m0,m1,m2,m3⟩:=m
 obtain⟨a0,a1,a2,a3⟩:=hp
 obtain⟨b0,b1,b2,b3⟩:=hm
 obtain⟨X0,hX0⟩:=is_ex (after e (ti p0 m0))
 obtain⟨Y0,hY0⟩:=is_ex (after X0.q (ti p1 m2))
 obtain⟨O0,hO0⟩:=is_ex (after Y0.q (pl X0 Y0))
 obtain⟨X1,hX1⟩:=is_ex (after O0.q (ti p0 m1))
 obtain⟨Y1,hY1⟩:=is_ex (after X1.q (ti p1 m3))
 obtain⟨O1,hO1⟩:=is_ex (after Y1.q (pl X1 Y1))
 obtain⟨X2,hX2⟩:=is_ex (after O1.q (ti p2 m0))
 obtain⟨Y2,hY2⟩:=is_ex (after X2.q (ti p3 m2))
 obtain⟨O2,hO2⟩:=is_ex (after Y2.q (pl X2 Y2))
 obtain⟨X3,hX3⟩:=is_ex (after O2.q (ti p2 m1))
 obtain⟨Y3,hY3⟩:=is_ex (after X3.q (ti p3 m3))
 obtain⟨O3,hO3⟩:=is_ex (after Y3.q (pl X3 Y3))
 rw[mul_is (dot_is hX0 hY0 hO0) (dot_is hX1 hY1 hO1) (dot_is hX2 hY2 hO2) (dot_is hX3 hY3 hO3)]
 exact mul_walk B e A p0 p1 p2 p3 m0 m1 m2 m3 X0 Y0 O0 X1 Y1 O1 X2 Y2 O2 X3 Y3 O3 a0 a1 a2 a3 b0 b1 b2 b3 hX0 hY0 hO0 hX1 hY1 hO1 hX2 hY2 hO2 hX3 hY3 hO3 w Ai
end Go.Proofs.YticobgianbecpaaGreatDoor
namespace Go.Proofs.YticobgianbecpaaGreatDoor
open Go Go.Sort Go.RowKit
theorem run_done {A:Ask}{fs:Bool}{s:Thr}{l:List Box} (h:¬s.q=0∨l = []):runR A fs s l=s:=by
 cases l with
 | nil=>rfl
 | cons b l=>rcases h with h|h;· simp only[runR];rw[if_neg h]
             ·cases h
theorem run_step {A:Ask}{fs:Bool}{s:Thr}{k:Nat}{b:Box} (h:s.q=0) (hk:A.ls[k]?=some b):runR A fs s (A.ls.drop k)=runR A fs (stepR A fs s b) (A.ls.drop (k+1)):=by
 obtain⟨hl,hb⟩:=List.getElem?_eq_some_iff.1 hk
 rw[List.drop_eq_getElem_cons hl,hb]
 simp only[runR]
 rw[if_pos h]
theorem mat_fine (e:Int) (y g:Res):(matR e y g).1.fine:=by unfold matR;exact⟨fine_after _ (fine_ti _ _),fine_after _ (fine_qt _ _),fine_after _ (fine_ti _ _),fine_after _ (fine_ti _ _)⟩
theorem step_no {A:Ask}{s:Thr}{b:Box}{y g:Res} (hy:Is y (admR s.q A b)) (hg:Is g (facR y.q A b 2)):stepR A false s b=⟨(mulR (matR g.q y g).2 s.p (matR g.q y g).1).1,s.f,(mulR (matR g.q y g).2 s.p (matR g.q y g).1).2⟩:=by
 cases hy;cases hg;unfold stepR;simp
def HidT (A:Ask) (fs:Bool) (s T:Thr) (k:Nat):Prop:=runR A fs s (A.ls.drop k)=T
theorem ones:(⟨oneR,noneR,noneR,oneR⟩:Mat).fine:=⟨fine_oneR,fine_noneR,fine_noneR,fine_oneR⟩
structure At2 (w:World) (b:Nat) (v0 v1:Value):Prop where
 c0:w.cell? ⟨b,0,none⟩=some v0
 c1:w.cell? ⟨b,1,none⟩=some v1
 fr:∀o,w.frozen? ⟨b,o,none⟩=false
structure At8 (w:World) (b:Nat) (v0 v1 v2 v3 v4 v5 v6 v7:Value):Prop where
 c0:w.cell? ⟨b,0,none⟩=some v0
 c1:w.cell? ⟨b,1,none⟩=some v1
 c2:w.cell? ⟨b,2,none⟩=some v2
 c3:w.cell? ⟨b,3,none⟩=some v3
 c4:w.cell? ⟨b,4,none⟩=some v4
 c5:w.cell? ⟨b,5,none⟩=some v5
 c6:w.cell? ⟨b,6,none⟩=some v6
 c7:w.cell? ⟨b,7,none⟩=some v7
 fr:∀o,w.frozen? ⟨b,o,none⟩=false
set_option maxRecDepth 100000 in
set_option maxHeartbeats 8000000 in
theorem through_no (B:Nat) (e:Int) (A:Ask) (hA:AskOk A) (T:Thr) (hT:HidT A false ⟨⟨oneR,noneR,noneR,oneR⟩,oneR,e⟩ T 0) (w:World) (Ai:Lt B e A w) :
  Calls Tryz.prog 100 #[.pointer (some ⟨B,0,none⟩),.bool false] w fun E w'=>E = .returned (.tuple #[.agg T.p.cells,.agg #[.complex .f64 (fl T.f.a) (fl T.f.b),.int .i64 T.f.c]])∧Trn B T.q w w':=by
 have hlen:=hA.len
 have Ab:=Ai.st
 have Ik:=tr_refl Ab
 obtain⟨Gh,Gi,Gj,Gk,Gl,Gm,Gn,Gp,Gq⟩:=Ai.cells
 have Kb:=Ab.cell
 have Kc:=Ab.free
 have Lk:=Ab.lt
 have Me:=own5 Lk
 go_enter Tryz.func100,Tryz.ntmps100
 go_wp2_with fail
 refine(one_cl _).mono ?_
 rintro e w1 ⟨rfl,D4⟩
 have Cs:=D4.size
 (try simp at Cs)
 have Iz:=bl5 D4 (w.heap.size)
 have G5:=bl5 D4 (w.heap.size+1)
 obtain⟨Bz,K0,K6,Kd,Hw,G4⟩:=pkb Ai Ik kpw D4
 (try clear Kb Kc Gh Gi Gj Gk Gl Gm Gn Gp Gq)
 go_wp2_with fail
 refine(none_cl _).mono ?_
 rintro e w2 ⟨rfl,D5⟩
 have Ct:=D5.size
 (try simp at Ct)
 have J0:=bl5 D5 (w.heap.size)
 have G7:=bl5 D5 (w.heap.size+1)
 obtain⟨C6,K1,K7,Ke,Ge,G6⟩:=pkb Ai Bz kpw D5
 (try clear G4 Hw)
 go_wp2_with fail
 refine(none_cl _).mono ?_
 rintro e w3 ⟨rfl,D6⟩
 have Cu:=D6.size
 (try simp at Cu)
 have J1:=bl5 D6 (w.heap.size)
 have Ga:=bl5 D6 (w.heap.size+1)
 obtain⟨C7,K2,K8,Kf,Gf,G9⟩:=pkb Ai C6 kpw D6
 (try clear G6 Ge)
 go_wp2_with fail
 refine(one_cl _).mono ?_
 rintro e w4 ⟨rfl,D7⟩
 have Cv:=D7.size
 (try simp at Cv)
 have J2:=bl5 D7 (w.heap.size)
 have L3:=bl5 D7 (w.heap.size+1)
 obtain⟨Cc,K3,K9,Kg,Gg,Gb⟩:=pkb Ai C7 kpw D7
 (try clear G9 Gf)
 go_wp2_with fail
 refine(one_cl _).mono ?_
 rintro e w5 ⟨rfl,D8⟩
 have Cw:=D8.size
 (try simp at Cw)
 have J4:=bl5 D8 (w.heap.size)
 have L6:=bl5 D8 (w.heap.size+1)
 obtain⟨Db,K4,Ka,Kh,J5,J3⟩:=pkb Ai Cc kpw D8
 (try clear Gb Gg)
 go_wp2_with fail
 go_loopw [8] (fun i wr=>∃(k:Nat) (p0 p1 p2 p3 f:Res) (q:Int),k≤A.ls.length∧i = .int .i64 (k+1)∧(⟨p0,p1,p2,p3⟩:Mat).fine∧Fine f∧HidT A false ⟨⟨p0,p1,p2,p3⟩,f,q⟩ T k∧Trn B q w wr∧w5.heap.size+1<wr.heap.size∧At8 wr w.heap.size (Value.complex .f64 0 0) (Value.int .i64 0) (Value.complex .f64 0 0) (Value.int .i64 0) (Value.complex .f64 0 0) (Value.int .i64 0) (Value.complex .f64 0 0) (Value.int .i64 0)∧At2 wr (w.heap.size+1) (Value.complex .f64 0 0) (Value.int .i64 0)∧At8 wr w5.heap.size (Value.complex .f64 (fl p0.a) (fl p0.b)) (Value.int .i64 p0.c) (Value.complex .f64 (fl p1.a) (fl p1.b)) (Value.int .i64 p1.c) (Value.complex .f64 (fl p2.a) (fl p2.b)) (Value.int .i64 p2.c) (Value.complex .f64 (fl p3.a) (fl p3.b)) (Value.int .i64 p3.c)∧At2 wr (w5.heap.size+1) (Value.complex .f64 (fl f.a) (fl f.b)) (Value.int .i64 f.c)) (fun i _=>A.ls.length+1-(intOf i).toNat)
 case atStart=>exact⟨0,oneR,noneR,noneR,oneR,oneR,e,by omega,rfl,ones,fine_oneR,hT,trw,by simp,⟨by go_simp,by go_simp,by go_simp,by go_simp,by go_simp,by go_simp,by go_simp,by go_simp,fun o=>by go_simp⟩,⟨by go_simp,by go_simp,fun o=>by go_simp⟩,⟨by go_simp,by go_simp,by go_simp,by go_simp,by go_simp,by go_simp,by go_simp,by go_simp,fun o=>by go_simp⟩,⟨by go_simp,by go_simp,fun o=>by go_simp⟩⟩
 case round =>
  obtain⟨k,p0,p1,p2,p3,f,q,hk,rfl,fp,ff,HT,H1,hsz,⟨Hx,Hy,Hz,I0,I1,I2,I3,I4,Ij⟩,⟨F8,F9,G2⟩,⟨Gr,Gs,Gt,Gu,Gv,Gw,Gx,Gy,Gz⟩,⟨D0,D1,D2⟩⟩:=hrel
  clear hT
  have hd0:¬w.heap.size=w5.heap.size:=by omega
  have he0:¬w5.heap.size=w.heap.size:=by omega
  have hd1:¬w.heap.size=w5.heap.size+1:=by omega
  have he1:¬w5.heap.size+1=w.heap.size:=by omega
  have hd2:¬w.heap.size+1=w5.heap.size:=by omega
  have he2:¬w5.heap.size=w.heap.size+1:=by omega
  have Mp:=H1.le
  have K5:=Lt.turn Ai H1
  have Im:=K5.st
  obtain⟨Lb,Lc,Ld,Le,Lf,Lg,Lh,Li,Lj⟩:=K5.cells
  have Ls:=Im.cell
  have Lu:=Im.free
  have Lz:=Im.lt
  have Ms:=own5 Lz
  generalize hln:A.ls.length=len at *
  by_cases hlt:k<len
  ·have hc1:((k:Int)+1≤len):=by omega
   by_cases hq:q=0
   ·have hq1:(q==0)=true:=by simpa using hq
    obtain⟨b,hb⟩:∃b,A.ls[k]?=some b:=⟨_,List.getElem?_eq_getElem (by omega)⟩
    have hM:Med A ((k:Int)+1) b:=med_layer A hA k b hb
    obtain⟨Y,hY⟩:=is_ex (admR q A b)
    have fY:Fine Y:=hY.fine (fine_adm _ _ _)
    obtain⟨G,hG⟩:=is_ex (facR Y.q A b 2)
    have fG:Fine G:=hG.fine (fine_fac _ _ _ _)
    have AD:=Lib.hid ((adm_any B q A ((k:Int)+1) b hA hM).to hY)
    have FA:=Lib.hid ((factor_any B Y.q A ((k:Int)+1) b k 2 hA hb rfl (.inr rfl)).to hG)
    have MA:=fun w L=>matrix_any B G.q A Y G fY fG w L
    have fm:=mat_fine G.q Y G
    have ST:=step_no (s:=⟨⟨p0,p1,p2,p3⟩,f,q⟩) hY hG
    generalize hm:matR G.q Y G=M at *
    obtain⟨⟨m0,m1,m2,m3⟩,EM⟩:=M
    have MU:=fun w L=>mul_any B EM A ⟨p0,p1,p2,p3⟩ ⟨m0,m1,m2,m3⟩ fp fm w L
    have fn:=mul_fine EM ⟨p0,p1,p2,p3⟩ ⟨m0,m1,m2,m3⟩
    simp only at ST
    generalize hn:mulR EM ⟨p0,p1,p2,p3⟩ ⟨m0,m1,m2,m3⟩=N at *
    obtain⟨⟨n0,n1,n2,n3⟩,EN⟩:=N
    simp only[Mat.cells]at MA MU ST fn
    have HT':HidT A false ⟨⟨n0,n1,n2,n3⟩,f,EN⟩ T (k+1):=by have h:=HT;unfold HidT at h ⊢;rw[run_step hq hb,ST]at h;exact h
    have MA:=Lib.hid MA
    have MU:=Lib.hid MU
    have HT':=Lib.hid HT'
    have fn:=Lib.hid fn
    clear HT ST hm hn hM fm hq hb
    go_wp2_with fail
    refine(AD.out _ (Lt.turn Ai (Trn.kp H1 kpw))).mono ?_
    rintro e w21 ⟨rfl,Bv⟩
    have Iw:=Bv.size_le
    (try simp at Iw)
    have Bx:=tn5 Bv (w.heap.size)
    have Ak:=tn5 Bv (w.heap.size+1)
    have Ar:=tn5 Bv (w5.heap.size)
    have Af:=tn5 Bv (w5.heap.size+1)
    obtain⟨Il,M0,M3,M7,Mb,Kz⟩:=pkx Ai H1 kpw Bv
    (try clear Ls Lu Lb Lc Ld Le Lf Lg Lh Li Lj)
    replace Bx:=cas5 Bx [.complex .f64 0 0,.int .i64 0,.complex .f64 0 0,.int .i64 0,.complex .f64 0 0,.int .i64 0,.complex .f64 0 0,.int .i64 0]
    replace Ak:=cas5 Ak [.complex .f64 0 0,.int .i64 0]
    replace Ar:=cas5 Ar [.complex .f64 (fl p0.a) (fl p0.b),.int .i64 p0.c,.complex .f64 (fl p1.a) (fl p1.b),.int .i64 p1.c,.complex .f64 (fl p2.a) (fl p2.b),.int .i64 p2.c,.complex .f64 (fl p3.a) (fl p3.b),.int .i64 p3.c]
    replace Af:=cas5 Af [.complex .f64 (fl f.a) (fl f.b),.int .i64 f.c]
    simp only[CAf,Nat.reduceAdd,and_true]at Bx Ak Ar Af
    (try clear Ij Hx Hy Hz I0 I1 I2 I3 I4 G2 F8 F9 Gz Gr Gs Gt Gu Gv Gw Gx Gy D2 D0 D1)
    go_wp2_with fail
    refine(FA.out _ (Lt.turn Ai (Trn.kp Il kpw))).mono ?_
    rintro e w22 ⟨rfl,Ao⟩
    have Ix:=Ao.size_le
    (try simp at Ix)
    have By:=tn5 Ao (w.heap.size)
    have Am:=tn5 Ao (w.heap.size+1)
    have As:=tn5 Ao (w5.heap.size)
    have Ag:=tn5 Ao (w5.heap.size+1)
    have Al:=tn5 Ao (w21.heap.size)
    obtain⟨D3,M1,M4,M8,Mc,L0⟩:=pkx Ai Il kpw Ao
    (try clear Kz)
    replace By:=cas5 By [.complex .f64 0 0,.int .i64 0,.complex .f64 0 0,.int .i64 0,.complex .f64 0 0,.int .i64 0,.complex .f64 0 0,.int .i64 0]
    replace Am:=cas5 Am [.complex .f64 0 0,.int .i64 0]
    replace As:=cas5 As [.complex .f64 (fl p0.a) (fl p0.b),.int .i64 p0.c,.complex .f64 (fl p1.a) (fl p1.b),.int .i64 p1.c,.complex .f64 (fl p2.a) (fl p2.b),.int .i64 p2.c,.complex .f64 (fl p3.a) (fl p3.b),.int .i64 p3.c]
    replace Ag:=cas5 Ag [.complex .f64 (fl f.a) (fl f.b),.int .i64 f.c]
    replace Al:=cas5 Al [.complex .f64 (fl Y.a) (fl Y.b),.int .i64 Y.c]
    simp only[CAf,Nat.reduceAdd,and_true]at By Am As Ag Al
    (try clear Bx Ak Ar Af)
    go_wp2_with fail
    refine turn (fun i=>i==5||i==6) 7 (by kernel_rfl) (by kernel_rfl) (St.cell (St.turn Ab (Trn.kp D3 kpw))) fun hG => ?_
    have A8:=fun o=>hG (w.heap.size) lto o (ne_addr (by omega))
    have A6:=fun o=>hG (w.heap.size+1) lto o (ne_addr (by omega))
    have Kq:=fun o=>hG (w5.heap.size) lto o (ne_addr (by omega))
    have H2:=fun o=>hG (w5.heap.size+1) lto o (ne_addr (by omega))
    have Io:=fun o=>hG (w21.heap.size) lto o (ne_addr (by omega))
    have Ip:=fun o=>hG (w22.heap.size) lto o (ne_addr (by omega))
    have A2:=fun o=>hG B lto (o+1) ne_off
    clear hG
    simp only[List.take_succ_cons,List.take_zero,List.drop_succ_cons,List.drop_zero]
    repeat (first|(refine wpTurn_pure rfl (fun K hK => ?_);go_simp;first|(refine hK _ _ ?_;clear hK K)|(apply Exists.intro;refine⟨fun _ _ => ?_,hK _ _ ?_⟩;(first|fail);clear hK K))|(refine wpTurn_eff rfl (fun K hK => ?_);go_simp;(first|(first|with_reducible refine⟨_,_,fun _=>tur_lt (Lt.turn Ai (Trn.kp D3 kpw)) (fun w h=>MA.out w h),?_⟩|with_reducible refine⟨_,_,fun _=>tur_lt (Lt.turn Ai (Trn.kp D3 kpw)) (fun w h=>MU.out w h),?_⟩));refine hK _ _ ?_;clear hK K))
    refine wpTurn_nil ?_
    intro w23 Aj
    clear A2 A8 A6 Kq H2 Io Ip
    have Iy:=Aj.size_le
    (try simp at Iy)
    have Cr:=tn5 Aj (w.heap.size)
    have Bw:=tn5 Aj (w.heap.size+1)
    have C4:=tn5 Aj (w5.heap.size)
    have Ap:=tn5 Aj (w5.heap.size+1)
    have Ju:=tn5 Aj (w21.heap.size)
    have Jv:=tn5 Aj (w22.heap.size)
    obtain⟨M6,M2,M5,M9,Md,Ma⟩:=pkx Ai D3 kpw Aj
    (try clear L0)
    replace Cr:=cas5 Cr [.complex .f64 0 0,.int .i64 0,.complex .f64 0 0,.int .i64 0,.complex .f64 0 0,.int .i64 0,.complex .f64 0 0,.int .i64 0]
    replace Bw:=cas5 Bw [.complex .f64 0 0,.int .i64 0]
    replace C4:=cas5 C4 [.complex .f64 (fl p0.a) (fl p0.b),.int .i64 p0.c,.complex .f64 (fl p1.a) (fl p1.b),.int .i64 p1.c,.complex .f64 (fl p2.a) (fl p2.b),.int .i64 p2.c,.complex .f64 (fl p3.a) (fl p3.b),.int .i64 p3.c]
    replace Ap:=cas5 Ap [.complex .f64 (fl f.a) (fl f.b),.int .i64 f.c]
    simp only[CAf,Nat.reduceAdd,and_true]at Cr Bw C4 Ap
    (try clear By Am As Ag Al)
    go_wp2_with fail
    go_roundw
    case rel=>exact⟨k+1,n0,n1,n2,n3,f,EN,by omega,by first|(simp;done)|(simp;omega),fn.out,ff,HT'.out,trw,by first|(simp;done)|(simp;omega),⟨by go_simp,by go_simp,by go_simp,by go_simp,by go_simp,by go_simp,by go_simp,by go_simp,fun o=>by go_simp⟩,⟨by go_simp,by go_simp,fun o=>by go_simp⟩,⟨by go_simp,by go_simp,by go_simp,by go_simp,by go_simp,by go_simp,by go_simp,by go_simp,fun o=>by go_simp⟩,⟨by go_simp,by go_simp,fun o=>by go_simp⟩⟩
    case measure=>simp[intOf];omega
   ·have hq1:(q==0)=false:=by simpa using hq
    have hT':(⟨⟨p0,p1,p2,p3⟩,f,q⟩:Thr)=T:=(run_done (.inl hq)).symm.trans HT
    subst hT'
    clear HT
    go_wp2_with fail
    go_region_held3 (fun w'=>w'.cell? ⟨w5.heap.size,0,none⟩=some (Value.complex .f64 (fl p0.a) (fl p0.b))∧w'.cell? ⟨w5.heap.size,1,none⟩=some (Value.int .i64 p0.c)∧w'.cell? ⟨w5.heap.size,2,none⟩=some (Value.complex .f64 (fl p1.a) (fl p1.b))∧w'.cell? ⟨w5.heap.size,3,none⟩=some (Value.int .i64 p1.c)∧w'.cell? ⟨w5.heap.size,4,none⟩=some (Value.complex .f64 (fl p2.a) (fl p2.b))∧w'.cell? ⟨w5.heap.size,5,none⟩=some (Value.int .i64 p2.c)∧w'.cell? ⟨w5.heap.size,6,none⟩=some (Value.complex .f64 (fl p3.a) (fl p3.b))∧w'.cell? ⟨w5.heap.size,7,none⟩=some (Value.int .i64 p3.c)∧w'.cell? ⟨w5.heap.size+1,0,none⟩=some (Value.complex .f64 (fl f.a) (fl f.b))∧w'.cell? ⟨w5.heap.size+1,1,none⟩=some (Value.int .i64 f.c)) (simp[*,go_sem,World.cell?_setCell_far]) (fail)
    repeat' (first|go_values|go_skip|go_guarded|go_step|go_upon|(simp only[];go_simp))
    refine bodyPost_ret (by simp[results,Tryz.results100,go_sem, *];first|done|rfl) rfl ?_
    exact⟨by simp only[Mat.cells],trw⟩
  ·have hc1:¬((k:Int)+1≤len):=by omega
   have hT':(⟨⟨p0,p1,p2,p3⟩,f,q⟩:Thr)=T:=(run_done (.inr (List.drop_eq_nil_of_le (by omega)))).symm.trans HT
   subst hT'
   clear HT
   go_wp2_with fail
   go_region_held3 (fun w'=>w'.cell? ⟨w5.heap.size,0,none⟩=some (Value.complex .f64 (fl p0.a) (fl p0.b))∧w'.cell? ⟨w5.heap.size,1,none⟩=some (Value.int .i64 p0.c)∧w'.cell? ⟨w5.heap.size,2,none⟩=some (Value.complex .f64 (fl p1.a) (fl p1.b))∧w'.cell? ⟨w5.heap.size,3,none⟩=some (Value.int .i64 p1.c)∧w'.cell? ⟨w5.heap.size,4,none⟩=some (Value.complex .f64 (fl p2.a) (fl p2.b))∧w'.cell? ⟨w5.heap.size,5,none⟩=some (Value.int .i64 p2.c)∧w'.cell? ⟨w5.heap.size,6,none⟩=some (Value.complex .f64 (fl p3.a) (fl p3.b))∧w'.cell? ⟨w5.heap.size,7,none⟩=some (Value.int .i64 p3.c)∧w'.cell? ⟨w5.heap.size+1,0,none⟩=some (Value.complex .f64 (fl f.a) (fl f.b))∧w'.cell? ⟨w5.heap.size+1,1,none⟩=some (Value.int .i64 f.c)) (simp[*,go_sem,World.cell?_setCell_far]) (fail)
   repeat' (first|go_values|go_skip|go_guarded|go_step|go_upon|(simp only[];go_simp))
   refine bodyPost_ret (by simp[results,Tryz.results100,go_sem, *];first|done|rfl) rfl ?_
   exact⟨by simp only[Mat.cells],trw⟩
end Go.Proofs.YticobgianbecpaaGreatDoor
