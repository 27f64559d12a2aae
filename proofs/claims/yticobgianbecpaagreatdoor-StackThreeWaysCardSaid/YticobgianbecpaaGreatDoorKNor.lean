/- Joined: NorA NorB NorC NorD. -/
import Derived.Test.YticobgianbecpaaGreatDoorKMed
namespace Go.Proofs.YticobgianbecpaaGreatDoor
open Go Go.Sort Go.RowKit
set_option maxHeartbeats 4000000 in
theorem nor_A (B:Nat) (e:Int) (A:Ask) (n:Int) (b:Box) (hA:AskOk A) (hM:Med A n b) (N S Q U V:Res) (IX:LGives 102 #[.pointer (some ⟨B,0,none⟩),.int .i64 n] B e A N) (fN:Fine N) (fS:Fine S) (fQ:Fine Q) (fU:Fine U) (fV:Fine V)
  (CS:Is S (after N.q (ofRangeM (dn (A.ix*A.sl*1048576) 100000000) (up (A.ix*A.sh*1048576) 100000000)))) (hQ:Is Q (after S.q (ti N N))) (hU:Is U (after Q.q (ti S S))) (hV:Is V (after U.q (mi Q U))) (hv:V.q=0) (hl:b.lo=0):NGives n B e A (realM (V.a-V.c) (V.a+V.c)) (decide (V.a-V.c<0)):=by
 intro w Ag
 have HM:=Lib.hid hM.says
 obtain⟨k0,k1,s0,s1,s2,_,_,_,_,_,_,_,_,_,_⟩:=hA
 clear hM
 have IX:=Lib.hid IX
 have m0:0≤A.ix*A.sl:=Int.mul_nonneg (by omega) s0
 have m1:A.ix*A.sl≤80000*9999:=Int.mul_le_mul k1 (by omega) s0 (by decide)
 have m2:0≤A.ix*A.sh:=Int.mul_nonneg (by omega) (by omega)
 have m3:A.ix*A.sh≤80000*9999:=Int.mul_le_mul k1 s2 (by omega) (by decide)
 have W0:IntKind.i64.wrap (A.ix*A.sl)=A.ix*A.sl:=IntWalk.i64_in _ ⟨by omega,by omega⟩
 have W1:IntKind.i64.wrap (A.ix*A.sh)=A.ix*A.sh:=IntWalk.i64_in _ ⟨by omega,by omega⟩
 have W2:IntKind.i64.wrap (A.ix*A.sl*1048576)=A.ix*A.sl*1048576:=IntWalk.i64_in _ ⟨by omega,by omega⟩
 have W3:IntKind.i64.wrap (A.ix*A.sh*1048576)=A.ix*A.sh*1048576:=IntWalk.i64_in _ ⟨by omega,by omega⟩
 have hv1:(V.q != 0)=false:=by simpa using hv
 have hl1:(b.lo != 0)=false:=by simpa using hl
 have PA:=Lib.hid (fun w S=>parts_to B V fV _ _ _ _ (by rw[hv,pt_zero]) (by rw[hv,pt_zero]) (by rw[hv,pt_zero]) (by rw[hv,pt_zero]) w S)
 have OP:=fun w=>RealRoot_any (V.a-V.c) (V.a+V.c) w
 simp only[out_quad]at OP
 have OQ:=Lib.hid OP
 clear OP hv
 generalize realM (V.a-V.c) (V.a+V.c)=T at *
 have hb:=fV.right
 obtain⟨⟨b1,b2,b3,b4⟩,b5,b6⟩:=hb
 have Ad:=Ag.st
 have Ck:=tr_refl Ad
 obtain⟨C2,C3,C4,C5,C6,C7,C8,C9,Ca⟩:=Ag.cells
 have D4:=Ad.cell
 have D5:=Ad.free
 have Dd:=Ad.lt
 have De:=own5 Dd
 go_enter Tryz.func39,Tryz.ntmps39
 go_wp2_with fail
 refine(IX.out _ (Lt.turn Ag (Trn.kp Ck kpw))).mono ?_
 rintro e w1 ⟨rfl,Af⟩
 have Ay:=Af.size_le
 (try simp at Ay)
 have Br:=tn5 Af (w.heap.size)
 obtain⟨Aj,Cu,Cz,D6,Dc,Bq⟩:=pkx Ag Ck kpw Af
 (try clear D4 D5 C2 C3 C4 C5 C6 C7 C8 C9 Ca)
 go_wp2_with fail
 refine turn_new (fun i=>i==31) 32 #[.complex .f64 0 0,.int .i64 0] 57 _ rfl (by kernel_rfl) (by kernel_rfl) (by first|omega|(simp;omega)) (St.cell (St.turn Ad (Trn.kp Aj kpw))) (fun a w=>by kernel_rfl) fun hG => ?_
 have A9:=fun o=>hG (w.heap.size) lto o (ne_addr (by omega))
 have Ae:=fun o=>hG (w1.heap.size) lto o (ne_addr (by omega))
 have A2:=fun o=>hG B lto (o+1) ne_off
 clear hG
 simp only[List.take_succ_cons,List.take_zero,List.drop_succ_cons,List.drop_zero]
 repeat (first|(refine wpTurn_pure rfl (fun K hK => ?_);go_simp;first|(refine hK _ _ ?_;clear hK K)|(apply Exists.intro;refine⟨fun _ _ => ?_,hK _ _ ?_⟩;(first|(go_at_call 43;with_reducible exact cal_same (fun w=>sdown_any _ _ w (by omega) (by omega) (by omega)))|(go_at_call 44;with_reducible exact cal_same (fun w=>sup_any _ _ w (by omega) (by omega) (by omega) (by omega))));clear hK K))|(refine wpTurn_eff rfl (fun K hK => ?_);go_simp;(first|(with_reducible refine⟨_,_,fun _=>tur_st (St.turn Ad (Trn.kp Aj kpw)) (fun w h=>(c_real B N.q (dn (A.ix*A.sl*1048576) 100000000) (up (A.ix*A.sh*1048576) 100000000)).to CS w h),?_⟩));refine hK _ _ ?_;clear hK K))
 refine wpTurn_nil ?_
 intro B1 w2 hN
 obtain⟨Aa,A1,Bo,Cm,Co⟩:=hN
 (try simp at A1)
 clear A2 A9 Ae
 have Az:=Aa.size_le
 (try simp at Az)
 have Bt:=tn5 Aa (w.heap.size)
 have Bk:=tn5 Aa (w1.heap.size)
 obtain⟨Ak,Cv,D0,D7,Bz,Bs⟩:=pkx Ag Aj kpw Aa
 (try clear Bq)
 have Bi:¬B1=w.heap.size:=by first|omega|(simp at A1;omega)
 have Bg:¬w.heap.size=B1:=by first|omega|(simp at A1;omega)
 have Aw:¬B1=w1.heap.size:=by first|omega|(simp at A1;omega)
 have Au:¬w1.heap.size=B1:=by first|omega|(simp at A1;omega)
 have Ap:¬B1=B:=by first|omega|(simp at A1;omega)
 have Am:¬B=B1:=by first|omega|(simp at A1;omega)
 go_wp2_with fail
 refine turn_new (fun i=>i==5) 6 #[.complex .f64 0 0,.int .i64 0] 57 _ rfl (by kernel_rfl) (by kernel_rfl) (by first|omega|(simp;omega)) (St.cell (St.turn Ad (Trn.kp Ak kpw))) (fun a w=>by kernel_rfl) fun hG => ?_
 have A9:=fun o=>hG (w.heap.size) lto o (ne_addr (by omega))
 have Ae:=fun o=>hG (w1.heap.size) lto o (ne_addr (by omega))
 have A7:=fun o=>hG (B1) lto o (ne_addr (by omega))
 have A2:=fun o=>hG B lto (o+1) ne_off
 clear hG
 simp only[List.take_succ_cons,List.take_zero,List.drop_succ_cons,List.drop_zero]
 repeat (first|(refine wpTurn_pure rfl (fun K hK => ?_);go_simp;first|(refine hK _ _ ?_;clear hK K)|(apply Exists.intro;refine⟨fun _ _ => ?_,hK _ _ ?_⟩;(first|fail);clear hK K))|(refine wpTurn_eff rfl (fun K hK => ?_);go_simp;(first|(with_reducible refine⟨_,_,fun _=>tur_st (St.turn Ad (Trn.kp Ak kpw)) (fun w h=>(c_times B S.q N N fN fN).to hQ w h),?_⟩));refine hK _ _ ?_;clear hK K))
 refine wpTurn_nil ?_
 intro B2 w3 hN
 obtain⟨A5,A0,Bp,Al,Cp⟩:=hN
 (try simp at A0)
 clear A2 A9 Ae A7
 have B0:=A5.size_le
 (try simp at B0)
 have Bv:=tn5 A5 (w.heap.size)
 have Bl:=tn5 A5 (w1.heap.size)
 have B6:=tn5 A5 (B1)
 obtain⟨Ai,Cw,D1,D8,C0,Bu⟩:=pkx Ag Ak kpw A5
 (try clear Bs Bz)
 have Bj:¬B2=w.heap.size:=by first|omega|(simp at A0;omega)
 have Bh:¬w.heap.size=B2:=by first|omega|(simp at A0;omega)
 have Ax:¬B2=w1.heap.size:=by first|omega|(simp at A0;omega)
 have Av:¬w1.heap.size=B2:=by first|omega|(simp at A0;omega)
 have Ar:¬B2=B1:=by first|omega|(simp at A0;omega)
 have Ao:¬B1=B2:=by first|omega|(simp at A0;omega)
 have Aq:¬B2=B:=by first|omega|(simp at A0;omega)
 have An:¬B=B2:=by first|omega|(simp at A0;omega)
 go_wp2_with fail
 refine turn (fun i=>i==9||i==10) 11 (by kernel_rfl) (by kernel_rfl) (St.cell (St.turn Ad (Trn.kp Ai kpw))) fun hG => ?_
 have A9:=fun o=>hG (w.heap.size) lto o (ne_addr (by omega))
 have A7:=fun o=>hG (B1) lto o (ne_addr (by omega))
 have Ac:=fun o=>hG (B2) lto o (ne_addr (by omega))
 have A2:=fun o=>hG B lto (o+1) ne_off
 clear hG
 simp only[List.take_succ_cons,List.take_zero,List.drop_succ_cons,List.drop_zero]
 repeat (first|(refine wpTurn_pure rfl (fun K hK => ?_);go_simp;first|(refine hK _ _ ?_;clear hK K)|(apply Exists.intro;refine⟨fun _ _ => ?_,hK _ _ ?_⟩;(first|fail);clear hK K))|(refine wpTurn_eff rfl (fun K hK => ?_);go_simp;(first|(first|with_reducible refine⟨_,_,fun _=>tur_st (St.turn Ad (Trn.kp Ai kpw)) (fun w h=>(c_times B Q.q S S fS fS).to hU w h),?_⟩|with_reducible refine⟨_,_,fun _=>tur_st (St.turn Ad (Trn.kp Ai kpw)) (fun w h=>(c_minus B U.q Q U fQ fU).to hV w h),?_⟩));refine hK _ _ ?_;clear hK K))
 refine wpTurn_nil ?_
 intro w4 A6
 clear A2 A9 A7 Ac
 have B4:=A6.size_le
 (try simp at B4)
 have Bx:=tn5 A6 (w.heap.size)
 have B7:=tn5 A6 (B1)
 obtain⟨Be,Bc,Ba,A3,B8⟩:=tn5 A6 (B2)
 obtain⟨At,Cx,D2,D9,C1,Bw⟩:=pkx Ag Ai kpw A6
 (try clear Bu C0)
 have d0:=(A3 0).trans (show _=some (Value.complex .f64 (fl Q.a) (fl Q.b))from by simp[go_sem,Al])
 have d1:=(A3 1).trans (show _=some (Value.int .i64 Q.c)from by simp[go_sem,Al])
 go_wp2_with fail
 refine(HM.out B V.q _ (Lt.turn Ag (Trn.kp At kpw))).mono ?_
 rintro e w5 ⟨rfl,Ab⟩
 have B5:=Ab.size
 (try simp at B5)
 have By:=bl5 Ab (w.heap.size)
 obtain⟨Bf,Bd,Bb,A4,B9⟩:=bl5 Ab (B2)
 obtain⟨As,Cy,D3,Da,Ci,Ch⟩:=pkb Ag At kpw Ab
 (try clear Bw C1)
 have d2:=(A4 0).trans (show _=some (Value.complex .f64 (fl V.a) (fl V.b))from by simp[go_sem,d0])
 have d3:=(A4 1).trans (show _=some (Value.int .i64 V.c)from by simp[go_sem,d1])
 clear A4 A3 d0 d1
 go_wp2_with fail
 refine turn_new (fun i=>i==4) 6 #[.int .i64 0,.int .i64 0] 23 _ rfl (by kernel_rfl) (by kernel_rfl) (by first|omega|(simp;omega)) (St.cell (St.turn Ad (Trn.kp As kpw))) (fun a w=>by kernel_rfl) fun hG => ?_
 have A9:=fun o=>hG (w.heap.size) lto o (ne_addr (by omega))
 have Ac:=fun o=>hG (B2) lto o (ne_addr (by omega))
 have A2:=fun o=>hG B lto (o+1) ne_off
 clear hG
 simp only[List.take_succ_cons,List.take_zero,List.drop_succ_cons,List.drop_zero]
 repeat (first|(refine wpTurn_pure rfl (fun K hK => ?_);go_simp;first|(refine hK _ _ ?_;clear hK K)|(apply Exists.intro;refine⟨fun _ _ => ?_,hK _ _ ?_⟩;(first|fail);clear hK K))|(refine wpTurn_eff rfl (fun K hK => ?_);go_simp;(first|(with_reducible refine⟨_,_,fun _=>tur_st (St.turn Ad (Trn.kp As kpw)) (fun w h=>PA.out w h),?_⟩));refine hK _ _ ?_;clear hK K))
 refine wpTurn_nil ?_
 intro B3 w6 hN
 obtain⟨Ah,A8,Db,Cn,Dh⟩:=hN
 (try simp at A8)
 clear A2 A9 Ac
 have Bm:=Ah.size_le
 (try simp at Bm)
 have Cq:=tn5 Ah (w.heap.size)
 have Bn:=tn5 Ah (B2)
 have Cl:=Trn.nx As kpw Ah
 have Dg:=Cl.le
 have Cr:=Lt.turn Ag Cl
 have Cj:=Cr.st
 obtain⟨Du,Dv,Dw,Dx,Dy,Dz,E0,E1,E2⟩:=Cr.cells
 have E8:=Cj.cell
 have E9:=Cj.free
 have Dt:=Cj.lt
 have Ee:=own5 Dt
 (try clear Ch Ci)
 have Ct:¬B3=w.heap.size:=by first|omega|(simp at A8;omega)
 have Cs:¬w.heap.size=B3:=by first|omega|(simp at A8;omega)
 have Cg:¬B3=B2:=by first|omega|(simp at A8;omega)
 have Ce:¬B2=B3:=by first|omega|(simp at A8;omega)
 have Cf:¬B3=B:=by first|omega|(simp at A8;omega)
 have Cd:¬B=B3:=by first|omega|(simp at A8;omega)
 have d4:w6.cell? ⟨B3,0,none⟩=some (Value.int .i64 0):=(Cn 0).trans (by simp)
 have d5:w6.cell? ⟨B3,1,none⟩=some (Value.int .i64 0):=(Cn 1).trans (by simp)
 go_wp2_with fail
 go_region_held3 (fun w'=>w'.cell? ⟨B3,0,none⟩=some (.int .i64 (V.a-V.c))∧w'.cell? ⟨B3,1,none⟩=some (.int .i64 (V.a+V.c))) (simp[*,go_sem,World.cell?_setCell_far]) (first|(go_at_call 107;refine(OQ.out _).mono ?_;rintro e w7 ⟨rfl,Cb⟩;have Di:=Cb.size;(try simp at Di);have Dq:=bl5 Cb (w.heap.size);have Dm:=bl5 Cb (B3);obtain⟨Df,E3,E5,Ea,Ds,Dp⟩:=pkb Ag Cl kpw Cb;(try clear Dl);(try clear Do))|(go_at_call 105;refine(done_any B _ T.q T.a T.b T.c _ (St.turn Ad (Trn.kp Df kpw))).mono ?_;rintro e w8 ⟨rfl,Cc⟩;have Dj:=Cc.size_le;(try simp at Dj);have Dr:=tn5 Cc (w.heap.size);have Dn:=tn5 Cc (B3);obtain⟨E7,E4,E6,Eb,Ed,Ec⟩:=pkx Ag Df kpw Cc;(try clear Dp);(try clear Ds)))
 repeat' (first|go_values|go_skip|go_guarded|go_step|go_upon|(simp only[];go_simp))
 refine bodyPost_ret (by simp[results,Tryz.results39,go_sem, *];first|done|rfl) rfl ?_
 exact⟨rfl,trw⟩
end Go.Proofs.YticobgianbecpaaGreatDoor
namespace Go.Proofs.YticobgianbecpaaGreatDoor
open Go Go.Sort Go.RowKit
set_option maxHeartbeats 4000000 in
theorem nor_B (B:Nat) (e:Int) (A:Ask) (n:Int) (b:Box) (hA:AskOk A) (hM:Med A n b) (N S Q U V:Res) (IX:LGives 102 #[.pointer (some ⟨B,0,none⟩),.int .i64 n] B e A N) (fN:Fine N) (fS:Fine S) (fQ:Fine Q) (fU:Fine U) (fV:Fine V)
  (CS:Is S (after N.q (ofRangeM (dn (A.ix*A.sl*1048576) 100000000) (up (A.ix*A.sh*1048576) 100000000)))) (hQ:Is Q (after S.q (ti N N))) (hU:Is U (after Q.q (ti S S))) (hV:Is V (after U.q (mi Q U))) (hv:V.q=0) (hl:¬b.lo=0):NGives n B e A (ro V) false:=by
 intro w Ag
 have HM:=Lib.hid hM.says
 obtain⟨k0,k1,s0,s1,s2,_,_,_,_,_,_,_,_,_,_⟩:=hA
 clear hM
 have IX:=Lib.hid IX
 have m0:0≤A.ix*A.sl:=Int.mul_nonneg (by omega) s0
 have m1:A.ix*A.sl≤80000*9999:=Int.mul_le_mul k1 (by omega) s0 (by decide)
 have m2:0≤A.ix*A.sh:=Int.mul_nonneg (by omega) (by omega)
 have m3:A.ix*A.sh≤80000*9999:=Int.mul_le_mul k1 s2 (by omega) (by decide)
 have W0:IntKind.i64.wrap (A.ix*A.sl)=A.ix*A.sl:=IntWalk.i64_in _ ⟨by omega,by omega⟩
 have W1:IntKind.i64.wrap (A.ix*A.sh)=A.ix*A.sh:=IntWalk.i64_in _ ⟨by omega,by omega⟩
 have W2:IntKind.i64.wrap (A.ix*A.sl*1048576)=A.ix*A.sl*1048576:=IntWalk.i64_in _ ⟨by omega,by omega⟩
 have W3:IntKind.i64.wrap (A.ix*A.sh*1048576)=A.ix*A.sh*1048576:=IntWalk.i64_in _ ⟨by omega,by omega⟩
 have hv1:(V.q != 0)=false:=by simpa using hv
 have hl1:(b.lo != 0)=true:=by simpa using hl
 have OP:=fun w=>Root_any V.a V.b V.c w fV.f1 fV.f2
 rw[show rootM V.a V.b V.c=ro V from by unfold ro;rfl]at OP
 simp only[out_quad]at OP
 have OQ:=Lib.hid OP
 clear OP hv
 generalize ro V=T at *
 have Ad:=Ag.st
 have Ck:=tr_refl Ad
 obtain⟨C2,C3,C4,C5,C6,C7,C8,C9,Ca⟩:=Ag.cells
 have D4:=Ad.cell
 have D5:=Ad.free
 have Dd:=Ad.lt
 have De:=own5 Dd
 go_enter Tryz.func39,Tryz.ntmps39
 go_wp2_with fail
 refine(IX.out _ (Lt.turn Ag (Trn.kp Ck kpw))).mono ?_
 rintro e w1 ⟨rfl,Af⟩
 have Ay:=Af.size_le
 (try simp at Ay)
 have Br:=tn5 Af (w.heap.size)
 obtain⟨Aj,Cu,Cz,D6,Dc,Bq⟩:=pkx Ag Ck kpw Af
 (try clear D4 D5 C2 C3 C4 C5 C6 C7 C8 C9 Ca De)
 go_wp2_with fail
 refine turn_new (fun i=>i==31) 32 #[.complex .f64 0 0,.int .i64 0] 57 _ rfl (by kernel_rfl) (by kernel_rfl) (by first|omega|(simp;omega)) (St.cell (St.turn Ad (Trn.kp Aj kpw))) (fun a w=>by kernel_rfl) fun hG => ?_
 have A9:=fun o=>hG (w.heap.size) lto o (ne_addr (by omega))
 have Ae:=fun o=>hG (w1.heap.size) lto o (ne_addr (by omega))
 have A2:=fun o=>hG B lto (o+1) ne_off
 clear hG
 simp only[List.take_succ_cons,List.take_zero,List.drop_succ_cons,List.drop_zero]
 repeat (first|(refine wpTurn_pure rfl (fun K hK => ?_);go_simp;first|(refine hK _ _ ?_;clear hK K)|(apply Exists.intro;refine⟨fun _ _ => ?_,hK _ _ ?_⟩;(first|(go_at_call 43;with_reducible exact cal_same (fun w=>sdown_any _ _ w (by omega) (by omega) (by omega)))|(go_at_call 44;with_reducible exact cal_same (fun w=>sup_any _ _ w (by omega) (by omega) (by omega) (by omega))));clear hK K))|(refine wpTurn_eff rfl (fun K hK => ?_);go_simp;(first|(with_reducible refine⟨_,_,fun _=>tur_st (St.turn Ad (Trn.kp Aj kpw)) (fun w h=>(c_real B N.q (dn (A.ix*A.sl*1048576) 100000000) (up (A.ix*A.sh*1048576) 100000000)).to CS w h),?_⟩));refine hK _ _ ?_;clear hK K))
 refine wpTurn_nil ?_
 intro B1 w2 hN
 obtain⟨Aa,A1,Bo,Cm,Co⟩:=hN
 (try simp at A1)
 clear A2 A9 Ae
 have Az:=Aa.size_le
 (try simp at Az)
 have Bt:=tn5 Aa (w.heap.size)
 have Bk:=tn5 Aa (w1.heap.size)
 obtain⟨Ak,Cv,D0,D7,Bz,Bs⟩:=pkx Ag Aj kpw Aa
 (try clear Bq)
 have Bi:¬B1=w.heap.size:=by first|omega|(simp at A1;omega)
 have Bg:¬w.heap.size=B1:=by first|omega|(simp at A1;omega)
 have Aw:¬B1=w1.heap.size:=by first|omega|(simp at A1;omega)
 have Au:¬w1.heap.size=B1:=by first|omega|(simp at A1;omega)
 have Ap:¬B1=B:=by first|omega|(simp at A1;omega)
 have Am:¬B=B1:=by first|omega|(simp at A1;omega)
 go_wp2_with fail
 refine turn_new (fun i=>i==5) 6 #[.complex .f64 0 0,.int .i64 0] 57 _ rfl (by kernel_rfl) (by kernel_rfl) (by first|omega|(simp;omega)) (St.cell (St.turn Ad (Trn.kp Ak kpw))) (fun a w=>by kernel_rfl) fun hG => ?_
 have A9:=fun o=>hG (w.heap.size) lto o (ne_addr (by omega))
 have Ae:=fun o=>hG (w1.heap.size) lto o (ne_addr (by omega))
 have A7:=fun o=>hG (B1) lto o (ne_addr (by omega))
 have A2:=fun o=>hG B lto (o+1) ne_off
 clear hG
 simp only[List.take_succ_cons,List.take_zero,List.drop_succ_cons,List.drop_zero]
 repeat (first|(refine wpTurn_pure rfl (fun K hK => ?_);go_simp;first|(refine hK _ _ ?_;clear hK K)|(apply Exists.intro;refine⟨fun _ _ => ?_,hK _ _ ?_⟩;(first|fail);clear hK K))|(refine wpTurn_eff rfl (fun K hK => ?_);go_simp;(first|(with_reducible refine⟨_,_,fun _=>tur_st (St.turn Ad (Trn.kp Ak kpw)) (fun w h=>(c_times B S.q N N fN fN).to hQ w h),?_⟩));refine hK _ _ ?_;clear hK K))
 refine wpTurn_nil ?_
 intro B2 w3 hN
 obtain⟨A5,A0,Bp,Al,Cp⟩:=hN
 (try simp at A0)
 clear A2 A9 Ae A7
 have B0:=A5.size_le
 (try simp at B0)
 have Bv:=tn5 A5 (w.heap.size)
 have Bl:=tn5 A5 (w1.heap.size)
 have B6:=tn5 A5 (B1)
 obtain⟨Ai,Cw,D1,D8,C0,Bu⟩:=pkx Ag Ak kpw A5
 (try clear Bs Bz)
 have Bj:¬B2=w.heap.size:=by first|omega|(simp at A0;omega)
 have Bh:¬w.heap.size=B2:=by first|omega|(simp at A0;omega)
 have Ax:¬B2=w1.heap.size:=by first|omega|(simp at A0;omega)
 have Av:¬w1.heap.size=B2:=by first|omega|(simp at A0;omega)
 have Ar:¬B2=B1:=by first|omega|(simp at A0;omega)
 have Ao:¬B1=B2:=by first|omega|(simp at A0;omega)
 have Aq:¬B2=B:=by first|omega|(simp at A0;omega)
 have An:¬B=B2:=by first|omega|(simp at A0;omega)
 go_wp2_with fail
 refine turn (fun i=>i==9||i==10) 11 (by kernel_rfl) (by kernel_rfl) (St.cell (St.turn Ad (Trn.kp Ai kpw))) fun hG => ?_
 have A9:=fun o=>hG (w.heap.size) lto o (ne_addr (by omega))
 have A7:=fun o=>hG (B1) lto o (ne_addr (by omega))
 have Ac:=fun o=>hG (B2) lto o (ne_addr (by omega))
 have A2:=fun o=>hG B lto (o+1) ne_off
 clear hG
 simp only[List.take_succ_cons,List.take_zero,List.drop_succ_cons,List.drop_zero]
 repeat (first|(refine wpTurn_pure rfl (fun K hK => ?_);go_simp;first|(refine hK _ _ ?_;clear hK K)|(apply Exists.intro;refine⟨fun _ _ => ?_,hK _ _ ?_⟩;(first|fail);clear hK K))|(refine wpTurn_eff rfl (fun K hK => ?_);go_simp;(first|(first|with_reducible refine⟨_,_,fun _=>tur_st (St.turn Ad (Trn.kp Ai kpw)) (fun w h=>(c_times B Q.q S S fS fS).to hU w h),?_⟩|with_reducible refine⟨_,_,fun _=>tur_st (St.turn Ad (Trn.kp Ai kpw)) (fun w h=>(c_minus B U.q Q U fQ fU).to hV w h),?_⟩));refine hK _ _ ?_;clear hK K))
 refine wpTurn_nil ?_
 intro w4 A6
 clear A2 A9 A7 Ac
 have B4:=A6.size_le
 (try simp at B4)
 have Bx:=tn5 A6 (w.heap.size)
 have B7:=tn5 A6 (B1)
 obtain⟨Be,Bc,Ba,A3,B8⟩:=tn5 A6 (B2)
 obtain⟨At,Cx,D2,D9,C1,Bw⟩:=pkx Ag Ai kpw A6
 (try clear Bu C0)
 have d0:=(A3 0).trans (show _=some (Value.complex .f64 (fl Q.a) (fl Q.b))from by simp[go_sem,Al])
 have d1:=(A3 1).trans (show _=some (Value.int .i64 Q.c)from by simp[go_sem,Al])
 go_wp2_with fail
 refine(HM.out B V.q _ (Lt.turn Ag (Trn.kp At kpw))).mono ?_
 rintro e w5 ⟨rfl,Ab⟩
 have B5:=Ab.size
 (try simp at B5)
 have By:=bl5 Ab (w.heap.size)
 obtain⟨Bf,Bd,Bb,A4,B9⟩:=bl5 Ab (B2)
 obtain⟨As,Cy,D3,Da,Ci,Ch⟩:=pkb Ag At kpw Ab
 (try clear Bw C1)
 have d2:=(A4 0).trans (show _=some (Value.complex .f64 (fl V.a) (fl V.b))from by simp[go_sem,d0])
 have d3:=(A4 1).trans (show _=some (Value.int .i64 V.c)from by simp[go_sem,d1])
 clear A4 A3 d0 d1
 go_wp2_with fail
 refine turn (fun i=>i==7) 8 (by kernel_rfl) (by kernel_rfl) (St.cell (St.turn Ad (Trn.kp As kpw))) fun hG => ?_
 have A9:=fun o=>hG (w.heap.size) lto o (ne_addr (by omega))
 have Ac:=fun o=>hG (B2) lto o (ne_addr (by omega))
 have A2:=fun o=>hG B lto (o+1) ne_off
 clear hG
 simp only[List.take_succ_cons,List.take_zero,List.drop_succ_cons,List.drop_zero]
 repeat (first|(refine wpTurn_pure rfl (fun K hK => ?_);go_simp;first|(refine hK _ _ ?_;clear hK K)|(apply Exists.intro;refine⟨fun _ _ => ?_,hK _ _ ?_⟩;(first|(go_at_call 106;with_reducible exact cal_call OQ.out));clear hK K))|(refine wpTurn_eff rfl (fun K hK => ?_);go_simp;(first|(with_reducible refine⟨_,_,fun _=>tur_st (St.turn Ad (Trn.kp As kpw)) (fun w h=>done_any B _ T.q T.a T.b T.c w h),?_⟩));refine hK _ _ ?_;clear hK K))
 refine wpTurn_nil ?_
 intro w6 Ah
 clear A2 A9 Ac
 have Bm:=Ah.size_le
 (try simp at Bm)
 have Cq:=tn5 Ah (w.heap.size)
 have Bn:=tn5 Ah (B2)
 obtain⟨Cl,Cr,Cj,Dg,Do,Dl⟩:=pkx Ag As kpw Ah
 (try clear Ch Ci)
 repeat' (first|go_values|go_skip|go_guarded|go_step|go_upon|(simp only[];go_simp))
 refine bodyPost_ret (by simp[results,Tryz.results39,go_sem, *];first|done|rfl) rfl ?_
 exact⟨rfl,trw⟩
end Go.Proofs.YticobgianbecpaaGreatDoor
namespace Go.Proofs.YticobgianbecpaaGreatDoor
open Go Go.Sort Go.RowKit
set_option maxHeartbeats 4000000 in
theorem nor_C (B:Nat) (e:Int) (A:Ask) (n:Int) (b:Box) (hA:AskOk A) (hM:Med A n b) (N S Q U V:Res) (IX:LGives 102 #[.pointer (some ⟨B,0,none⟩),.int .i64 n] B e A N) (fN:Fine N) (fS:Fine S) (fQ:Fine Q) (fU:Fine U) (fV:Fine V)
  (CS:Is S (after N.q (ofRangeM (dn (A.ix*A.sl*1048576) 100000000) (up (A.ix*A.sh*1048576) 100000000)))) (hQ:Is Q (after S.q (ti N N))) (hU:Is U (after Q.q (ti S S))) (hV:Is V (after U.q (mi Q U))) (hv:¬V.q=0) (hl:b.lo=0):NGives n B e A V false:=by
 intro w Ag
 have HM:=Lib.hid hM.says
 obtain⟨k0,k1,s0,s1,s2,_,_,_,_,_,_,_,_,_,_⟩:=hA
 clear hM
 have IX:=Lib.hid IX
 have m0:0≤A.ix*A.sl:=Int.mul_nonneg (by omega) s0
 have m1:A.ix*A.sl≤80000*9999:=Int.mul_le_mul k1 (by omega) s0 (by decide)
 have m2:0≤A.ix*A.sh:=Int.mul_nonneg (by omega) (by omega)
 have m3:A.ix*A.sh≤80000*9999:=Int.mul_le_mul k1 s2 (by omega) (by decide)
 have W0:IntKind.i64.wrap (A.ix*A.sl)=A.ix*A.sl:=IntWalk.i64_in _ ⟨by omega,by omega⟩
 have W1:IntKind.i64.wrap (A.ix*A.sh)=A.ix*A.sh:=IntWalk.i64_in _ ⟨by omega,by omega⟩
 have W2:IntKind.i64.wrap (A.ix*A.sl*1048576)=A.ix*A.sl*1048576:=IntWalk.i64_in _ ⟨by omega,by omega⟩
 have W3:IntKind.i64.wrap (A.ix*A.sh*1048576)=A.ix*A.sh*1048576:=IntWalk.i64_in _ ⟨by omega,by omega⟩
 have hv1:(V.q != 0)=true:=by simpa using hv
 have z1:V.a=0∧V.b=0∧V.c=0:=by
  have:=fV.zero hv
  obtain⟨h1,h2,h3,_⟩:=quad_bad V.q
  exact⟨by rw[this];exact h1,by rw[this];exact h2,by rw[this];exact h3⟩
 have Z1:=Lib.hid z1
 clear z1
 have hl1:(b.lo != 0)=false:=by simpa using hl
 have PA:=Lib.hid (fun w S=>parts_to B V fV _ _ _ _ (pt_err _ hv) (pt_err _ hv) (pt_err _ hv) (pt_err _ hv) w S)
 have Ad:=Ag.st
 have Ck:=tr_refl Ad
 obtain⟨C2,C3,C4,C5,C6,C7,C8,C9,Ca⟩:=Ag.cells
 have D4:=Ad.cell
 have D5:=Ad.free
 have Dd:=Ad.lt
 have De:=own5 Dd
 go_enter Tryz.func39,Tryz.ntmps39
 go_wp2_with fail
 refine(IX.out _ (Lt.turn Ag (Trn.kp Ck kpw))).mono ?_
 rintro e w1 ⟨rfl,Af⟩
 have Ay:=Af.size_le
 (try simp at Ay)
 have Br:=tn5 Af (w.heap.size)
 obtain⟨Aj,Cu,Cz,D6,Dc,Bq⟩:=pkx Ag Ck kpw Af
 (try clear D4 D5 C2 C3 C4 C5 C6 C7 C8 C9 Ca De)
 go_wp2_with fail
 refine turn_new (fun i=>i==31) 32 #[.complex .f64 0 0,.int .i64 0] 57 _ rfl (by kernel_rfl) (by kernel_rfl) (by first|omega|(simp;omega)) (St.cell (St.turn Ad (Trn.kp Aj kpw))) (fun a w=>by kernel_rfl) fun hG => ?_
 have A9:=fun o=>hG (w.heap.size) lto o (ne_addr (by omega))
 have Ae:=fun o=>hG (w1.heap.size) lto o (ne_addr (by omega))
 have A2:=fun o=>hG B lto (o+1) ne_off
 clear hG
 simp only[List.take_succ_cons,List.take_zero,List.drop_succ_cons,List.drop_zero]
 repeat (first|(refine wpTurn_pure rfl (fun K hK => ?_);go_simp;first|(refine hK _ _ ?_;clear hK K)|(apply Exists.intro;refine⟨fun _ _ => ?_,hK _ _ ?_⟩;(first|(go_at_call 43;with_reducible exact cal_same (fun w=>sdown_any _ _ w (by omega) (by omega) (by omega)))|(go_at_call 44;with_reducible exact cal_same (fun w=>sup_any _ _ w (by omega) (by omega) (by omega) (by omega))));clear hK K))|(refine wpTurn_eff rfl (fun K hK => ?_);go_simp;(first|(with_reducible refine⟨_,_,fun _=>tur_st (St.turn Ad (Trn.kp Aj kpw)) (fun w h=>(c_real B N.q (dn (A.ix*A.sl*1048576) 100000000) (up (A.ix*A.sh*1048576) 100000000)).to CS w h),?_⟩));refine hK _ _ ?_;clear hK K))
 refine wpTurn_nil ?_
 intro B1 w2 hN
 obtain⟨Aa,A1,Bo,Cm,Co⟩:=hN
 (try simp at A1)
 clear A2 A9 Ae
 have Az:=Aa.size_le
 (try simp at Az)
 have Bt:=tn5 Aa (w.heap.size)
 have Bk:=tn5 Aa (w1.heap.size)
 obtain⟨Ak,Cv,D0,D7,Bz,Bs⟩:=pkx Ag Aj kpw Aa
 (try clear Bq)
 have Bi:¬B1=w.heap.size:=by first|omega|(simp at A1;omega)
 have Bg:¬w.heap.size=B1:=by first|omega|(simp at A1;omega)
 have Aw:¬B1=w1.heap.size:=by first|omega|(simp at A1;omega)
 have Au:¬w1.heap.size=B1:=by first|omega|(simp at A1;omega)
 have Ap:¬B1=B:=by first|omega|(simp at A1;omega)
 have Am:¬B=B1:=by first|omega|(simp at A1;omega)
 go_wp2_with fail
 refine turn_new (fun i=>i==5) 6 #[.complex .f64 0 0,.int .i64 0] 57 _ rfl (by kernel_rfl) (by kernel_rfl) (by first|omega|(simp;omega)) (St.cell (St.turn Ad (Trn.kp Ak kpw))) (fun a w=>by kernel_rfl) fun hG => ?_
 have A9:=fun o=>hG (w.heap.size) lto o (ne_addr (by omega))
 have Ae:=fun o=>hG (w1.heap.size) lto o (ne_addr (by omega))
 have A7:=fun o=>hG (B1) lto o (ne_addr (by omega))
 have A2:=fun o=>hG B lto (o+1) ne_off
 clear hG
 simp only[List.take_succ_cons,List.take_zero,List.drop_succ_cons,List.drop_zero]
 repeat (first|(refine wpTurn_pure rfl (fun K hK => ?_);go_simp;first|(refine hK _ _ ?_;clear hK K)|(apply Exists.intro;refine⟨fun _ _ => ?_,hK _ _ ?_⟩;(first|fail);clear hK K))|(refine wpTurn_eff rfl (fun K hK => ?_);go_simp;(first|(with_reducible refine⟨_,_,fun _=>tur_st (St.turn Ad (Trn.kp Ak kpw)) (fun w h=>(c_times B S.q N N fN fN).to hQ w h),?_⟩));refine hK _ _ ?_;clear hK K))
 refine wpTurn_nil ?_
 intro B2 w3 hN
 obtain⟨A5,A0,Bp,Al,Cp⟩:=hN
 (try simp at A0)
 clear A2 A9 Ae A7
 have B0:=A5.size_le
 (try simp at B0)
 have Bv:=tn5 A5 (w.heap.size)
 have Bl:=tn5 A5 (w1.heap.size)
 have B6:=tn5 A5 (B1)
 obtain⟨Ai,Cw,D1,D8,C0,Bu⟩:=pkx Ag Ak kpw A5
 (try clear Bs Bz)
 have Bj:¬B2=w.heap.size:=by first|omega|(simp at A0;omega)
 have Bh:¬w.heap.size=B2:=by first|omega|(simp at A0;omega)
 have Ax:¬B2=w1.heap.size:=by first|omega|(simp at A0;omega)
 have Av:¬w1.heap.size=B2:=by first|omega|(simp at A0;omega)
 have Ar:¬B2=B1:=by first|omega|(simp at A0;omega)
 have Ao:¬B1=B2:=by first|omega|(simp at A0;omega)
 have Aq:¬B2=B:=by first|omega|(simp at A0;omega)
 have An:¬B=B2:=by first|omega|(simp at A0;omega)
 go_wp2_with fail
 refine turn (fun i=>i==9||i==10) 11 (by kernel_rfl) (by kernel_rfl) (St.cell (St.turn Ad (Trn.kp Ai kpw))) fun hG => ?_
 have A9:=fun o=>hG (w.heap.size) lto o (ne_addr (by omega))
 have A7:=fun o=>hG (B1) lto o (ne_addr (by omega))
 have Ac:=fun o=>hG (B2) lto o (ne_addr (by omega))
 have A2:=fun o=>hG B lto (o+1) ne_off
 clear hG
 simp only[List.take_succ_cons,List.take_zero,List.drop_succ_cons,List.drop_zero]
 repeat (first|(refine wpTurn_pure rfl (fun K hK => ?_);go_simp;first|(refine hK _ _ ?_;clear hK K)|(apply Exists.intro;refine⟨fun _ _ => ?_,hK _ _ ?_⟩;(first|fail);clear hK K))|(refine wpTurn_eff rfl (fun K hK => ?_);go_simp;(first|(first|with_reducible refine⟨_,_,fun _=>tur_st (St.turn Ad (Trn.kp Ai kpw)) (fun w h=>(c_times B Q.q S S fS fS).to hU w h),?_⟩|with_reducible refine⟨_,_,fun _=>tur_st (St.turn Ad (Trn.kp Ai kpw)) (fun w h=>(c_minus B U.q Q U fQ fU).to hV w h),?_⟩));refine hK _ _ ?_;clear hK K))
 refine wpTurn_nil ?_
 intro w4 A6
 clear A2 A9 A7 Ac
 have B4:=A6.size_le
 (try simp at B4)
 have Bx:=tn5 A6 (w.heap.size)
 have B7:=tn5 A6 (B1)
 obtain⟨Be,Bc,Ba,A3,B8⟩:=tn5 A6 (B2)
 obtain⟨At,Cx,D2,D9,C1,Bw⟩:=pkx Ag Ai kpw A6
 (try clear Bu C0)
 have d0:=(A3 0).trans (show _=some (Value.complex .f64 (fl Q.a) (fl Q.b))from by simp[go_sem,Al])
 have d1:=(A3 1).trans (show _=some (Value.int .i64 Q.c)from by simp[go_sem,Al])
 go_wp2_with fail
 refine(HM.out B V.q _ (Lt.turn Ag (Trn.kp At kpw))).mono ?_
 rintro e w5 ⟨rfl,Ab⟩
 have B5:=Ab.size
 (try simp at B5)
 have By:=bl5 Ab (w.heap.size)
 obtain⟨Bf,Bd,Bb,A4,B9⟩:=bl5 Ab (B2)
 obtain⟨As,Cy,D3,Da,Ci,Ch⟩:=pkb Ag At kpw Ab
 (try clear Bw C1)
 have d2:=(A4 0).trans (show _=some (Value.complex .f64 (fl V.a) (fl V.b))from by simp[go_sem,d0])
 have d3:=(A4 1).trans (show _=some (Value.int .i64 V.c)from by simp[go_sem,d1])
 clear A4 A3 d0 d1
 go_wp2_with fail
 refine turn_new (fun i=>i==4) 6 #[.int .i64 0,.int .i64 0] 23 _ rfl (by kernel_rfl) (by kernel_rfl) (by first|omega|(simp;omega)) (St.cell (St.turn Ad (Trn.kp As kpw))) (fun a w=>by kernel_rfl) fun hG => ?_
 have A9:=fun o=>hG (w.heap.size) lto o (ne_addr (by omega))
 have Ac:=fun o=>hG (B2) lto o (ne_addr (by omega))
 have A2:=fun o=>hG B lto (o+1) ne_off
 clear hG
 simp only[List.take_succ_cons,List.take_zero,List.drop_succ_cons,List.drop_zero]
 repeat (first|(refine wpTurn_pure rfl (fun K hK => ?_);go_simp;first|(refine hK _ _ ?_;clear hK K)|(apply Exists.intro;refine⟨fun _ _ => ?_,hK _ _ ?_⟩;(first|fail);clear hK K))|(refine wpTurn_eff rfl (fun K hK => ?_);go_simp;(first|(with_reducible refine⟨_,_,fun _=>tur_st (St.turn Ad (Trn.kp As kpw)) (fun w h=>PA.out w h),?_⟩));refine hK _ _ ?_;clear hK K))
 refine wpTurn_nil ?_
 intro B3 w6 hN
 obtain⟨Ah,A8,Db,Cn,Dh⟩:=hN
 (try simp at A8)
 clear A2 A9 Ac
 have Bm:=Ah.size_le
 (try simp at Bm)
 have Cq:=tn5 Ah (w.heap.size)
 have Bn:=tn5 Ah (B2)
 obtain⟨Cl,Cr,Cj,Dg,Do,Dl⟩:=pkx Ag As kpw Ah
 (try clear Ch Ci)
 have Ct:¬B3=w.heap.size:=by first|omega|(simp at A8;omega)
 have Cs:¬w.heap.size=B3:=by first|omega|(simp at A8;omega)
 have Cg:¬B3=B2:=by first|omega|(simp at A8;omega)
 have Ce:¬B2=B3:=by first|omega|(simp at A8;omega)
 have Cf:¬B3=B:=by first|omega|(simp at A8;omega)
 have Cd:¬B=B3:=by first|omega|(simp at A8;omega)
 repeat' (first|go_values|go_skip|go_guarded|go_step|go_upon|(simp only[];go_simp))
 refine bodyPost_ret (by simp[results,Tryz.results39,go_sem, *];first|done|rfl) rfl ?_
 exact⟨by rw[Z1.out.1,Z1.out.2.1,Z1.out.2.2,fl_zero],trw⟩
end Go.Proofs.YticobgianbecpaaGreatDoor
namespace Go.Proofs.YticobgianbecpaaGreatDoor
open Go Go.Sort Go.RowKit
set_option maxHeartbeats 4000000 in
theorem nor_D (B:Nat) (e:Int) (A:Ask) (n:Int) (b:Box) (hA:AskOk A) (hM:Med A n b) (N S Q U V:Res) (IX:LGives 102 #[.pointer (some ⟨B,0,none⟩),.int .i64 n] B e A N) (fN:Fine N) (fS:Fine S) (fQ:Fine Q) (fU:Fine U) (fV:Fine V)
  (CS:Is S (after N.q (ofRangeM (dn (A.ix*A.sl*1048576) 100000000) (up (A.ix*A.sh*1048576) 100000000)))) (hQ:Is Q (after S.q (ti N N))) (hU:Is U (after Q.q (ti S S))) (hV:Is V (after U.q (mi Q U))) (hv:¬V.q=0) (hl:¬b.lo=0):NGives n B e A V false:=by
 intro w Ag
 have HM:=Lib.hid hM.says
 obtain⟨k0,k1,s0,s1,s2,_,_,_,_,_,_,_,_,_,_⟩:=hA
 clear hM
 have IX:=Lib.hid IX
 have m0:0≤A.ix*A.sl:=Int.mul_nonneg (by omega) s0
 have m1:A.ix*A.sl≤80000*9999:=Int.mul_le_mul k1 (by omega) s0 (by decide)
 have m2:0≤A.ix*A.sh:=Int.mul_nonneg (by omega) (by omega)
 have m3:A.ix*A.sh≤80000*9999:=Int.mul_le_mul k1 s2 (by omega) (by decide)
 have W0:IntKind.i64.wrap (A.ix*A.sl)=A.ix*A.sl:=IntWalk.i64_in _ ⟨by omega,by omega⟩
 have W1:IntKind.i64.wrap (A.ix*A.sh)=A.ix*A.sh:=IntWalk.i64_in _ ⟨by omega,by omega⟩
 have W2:IntKind.i64.wrap (A.ix*A.sl*1048576)=A.ix*A.sl*1048576:=IntWalk.i64_in _ ⟨by omega,by omega⟩
 have W3:IntKind.i64.wrap (A.ix*A.sh*1048576)=A.ix*A.sh*1048576:=IntWalk.i64_in _ ⟨by omega,by omega⟩
 have hv1:(V.q != 0)=true:=by simpa using hv
 have z1:V.a=0∧V.b=0∧V.c=0:=by
  have:=fV.zero hv
  obtain⟨h1,h2,h3,_⟩:=quad_bad V.q
  exact⟨by rw[this];exact h1,by rw[this];exact h2,by rw[this];exact h3⟩
 have Z1:=Lib.hid z1
 clear z1
 have hl1:(b.lo != 0)=true:=by simpa using hl
 have Ad:=Ag.st
 have Ck:=tr_refl Ad
 obtain⟨C2,C3,C4,C5,C6,C7,C8,C9,Ca⟩:=Ag.cells
 have D4:=Ad.cell
 have D5:=Ad.free
 have Dd:=Ad.lt
 have De:=own5 Dd
 go_enter Tryz.func39,Tryz.ntmps39
 go_wp2_with fail
 refine(IX.out _ (Lt.turn Ag (Trn.kp Ck kpw))).mono ?_
 rintro e w1 ⟨rfl,Af⟩
 have Ay:=Af.size_le
 (try simp at Ay)
 have Br:=tn5 Af (w.heap.size)
 obtain⟨Aj,Cu,Cz,D6,Dc,Bq⟩:=pkx Ag Ck kpw Af
 (try clear D4 D5 C2 C3 C4 C5 C6 C7 C8 C9 Ca De)
 go_wp2_with fail
 refine turn_new (fun i=>i==31) 32 #[.complex .f64 0 0,.int .i64 0] 57 _ rfl (by kernel_rfl) (by kernel_rfl) (by first|omega|(simp;omega)) (St.cell (St.turn Ad (Trn.kp Aj kpw))) (fun a w=>by kernel_rfl) fun hG => ?_
 have A9:=fun o=>hG (w.heap.size) lto o (ne_addr (by omega))
 have Ae:=fun o=>hG (w1.heap.size) lto o (ne_addr (by omega))
 have A2:=fun o=>hG B lto (o+1) ne_off
 clear hG
 simp only[List.take_succ_cons,List.take_zero,List.drop_succ_cons,List.drop_zero]
 repeat (first|(refine wpTurn_pure rfl (fun K hK => ?_);go_simp;first|(refine hK _ _ ?_;clear hK K)|(apply Exists.intro;refine⟨fun _ _ => ?_,hK _ _ ?_⟩;(first|(go_at_call 43;with_reducible exact cal_same (fun w=>sdown_any _ _ w (by omega) (by omega) (by omega)))|(go_at_call 44;with_reducible exact cal_same (fun w=>sup_any _ _ w (by omega) (by omega) (by omega) (by omega))));clear hK K))|(refine wpTurn_eff rfl (fun K hK => ?_);go_simp;(first|(with_reducible refine⟨_,_,fun _=>tur_st (St.turn Ad (Trn.kp Aj kpw)) (fun w h=>(c_real B N.q (dn (A.ix*A.sl*1048576) 100000000) (up (A.ix*A.sh*1048576) 100000000)).to CS w h),?_⟩));refine hK _ _ ?_;clear hK K))
 refine wpTurn_nil ?_
 intro B1 w2 hN
 obtain⟨Aa,A1,Bo,Cm,Co⟩:=hN
 (try simp at A1)
 clear A2 A9 Ae
 have Az:=Aa.size_le
 (try simp at Az)
 have Bt:=tn5 Aa (w.heap.size)
 have Bk:=tn5 Aa (w1.heap.size)
 obtain⟨Ak,Cv,D0,D7,Bz,Bs⟩:=pkx Ag Aj kpw Aa
 (try clear Bq)
 have Bi:¬B1=w.heap.size:=by first|omega|(simp at A1;omega)
 have Bg:¬w.heap.size=B1:=by first|omega|(simp at A1;omega)
 have Aw:¬B1=w1.heap.size:=by first|omega|(simp at A1;omega)
 have Au:¬w1.heap.size=B1:=by first|omega|(simp at A1;omega)
 have Ap:¬B1=B:=by first|omega|(simp at A1;omega)
 have Am:¬B=B1:=by first|omega|(simp at A1;omega)
 go_wp2_with fail
 refine turn_new (fun i=>i==5) 6 #[.complex .f64 0 0,.int .i64 0] 57 _ rfl (by kernel_rfl) (by kernel_rfl) (by first|omega|(simp;omega)) (St.cell (St.turn Ad (Trn.kp Ak kpw))) (fun a w=>by kernel_rfl) fun hG => ?_
 have A9:=fun o=>hG (w.heap.size) lto o (ne_addr (by omega))
 have Ae:=fun o=>hG (w1.heap.size) lto o (ne_addr (by omega))
 have A7:=fun o=>hG (B1) lto o (ne_addr (by omega))
 have A2:=fun o=>hG B lto (o+1) ne_off
 clear hG
 simp only[List.take_succ_cons,List.take_zero,List.drop_succ_cons,List.drop_zero]
 repeat (first|(refine wpTurn_pure rfl (fun K hK => ?_);go_simp;first|(refine hK _ _ ?_;clear hK K)|(apply Exists.intro;refine⟨fun _ _ => ?_,hK _ _ ?_⟩;(first|fail);clear hK K))|(refine wpTurn_eff rfl (fun K hK => ?_);go_simp;(first|(with_reducible refine⟨_,_,fun _=>tur_st (St.turn Ad (Trn.kp Ak kpw)) (fun w h=>(c_times B S.q N N fN fN).to hQ w h),?_⟩));refine hK _ _ ?_;clear hK K))
 refine wpTurn_nil ?_
 intro B2 w3 hN
 obtain⟨A5,A0,Bp,Al,Cp⟩:=hN
 (try simp at A0)
 clear A2 A9 Ae A7
 have B0:=A5.size_le
 (try simp at B0)
 have Bv:=tn5 A5 (w.heap.size)
 have Bl:=tn5 A5 (w1.heap.size)
 have B6:=tn5 A5 (B1)
 obtain⟨Ai,Cw,D1,D8,C0,Bu⟩:=pkx Ag Ak kpw A5
 (try clear Bs Bz)
 have Bj:¬B2=w.heap.size:=by first|omega|(simp at A0;omega)
 have Bh:¬w.heap.size=B2:=by first|omega|(simp at A0;omega)
 have Ax:¬B2=w1.heap.size:=by first|omega|(simp at A0;omega)
 have Av:¬w1.heap.size=B2:=by first|omega|(simp at A0;omega)
 have Ar:¬B2=B1:=by first|omega|(simp at A0;omega)
 have Ao:¬B1=B2:=by first|omega|(simp at A0;omega)
 have Aq:¬B2=B:=by first|omega|(simp at A0;omega)
 have An:¬B=B2:=by first|omega|(simp at A0;omega)
 go_wp2_with fail
 refine turn (fun i=>i==9||i==10) 11 (by kernel_rfl) (by kernel_rfl) (St.cell (St.turn Ad (Trn.kp Ai kpw))) fun hG => ?_
 have A9:=fun o=>hG (w.heap.size) lto o (ne_addr (by omega))
 have A7:=fun o=>hG (B1) lto o (ne_addr (by omega))
 have Ac:=fun o=>hG (B2) lto o (ne_addr (by omega))
 have A2:=fun o=>hG B lto (o+1) ne_off
 clear hG
 simp only[List.take_succ_cons,List.take_zero,List.drop_succ_cons,List.drop_zero]
 repeat (first|(refine wpTurn_pure rfl (fun K hK => ?_);go_simp;first|(refine hK _ _ ?_;clear hK K)|(apply Exists.intro;refine⟨fun _ _ => ?_,hK _ _ ?_⟩;(first|fail);clear hK K))|(refine wpTurn_eff rfl (fun K hK => ?_);go_simp;(first|(first|with_reducible refine⟨_,_,fun _=>tur_st (St.turn Ad (Trn.kp Ai kpw)) (fun w h=>(c_times B Q.q S S fS fS).to hU w h),?_⟩|with_reducible refine⟨_,_,fun _=>tur_st (St.turn Ad (Trn.kp Ai kpw)) (fun w h=>(c_minus B U.q Q U fQ fU).to hV w h),?_⟩));refine hK _ _ ?_;clear hK K))
 refine wpTurn_nil ?_
 intro w4 A6
 clear A2 A9 A7 Ac
 have B4:=A6.size_le
 (try simp at B4)
 have Bx:=tn5 A6 (w.heap.size)
 have B7:=tn5 A6 (B1)
 have Dk:=tn5 A6 (B2)
 obtain⟨At,Cx,D2,D9,C1,Bw⟩:=pkx Ag Ai kpw A6
 (try clear Bu C0)
 go_wp2_with fail
 refine(HM.out B V.q _ (Lt.turn Ag (Trn.kp At kpw))).mono ?_
 rintro e w5 ⟨rfl,Ab⟩
 have B5:=Ab.size
 (try simp at B5)
 have By:=bl5 Ab (w.heap.size)
 obtain⟨As,Cy,D3,Da,Ci,Ch⟩:=pkb Ag At kpw Ab
 (try clear Bw C1)
 repeat' (first|go_values|go_skip|go_guarded|go_step|go_upon|(simp only[];go_simp))
 refine bodyPost_ret (by simp[results,Tryz.results39,go_sem, *];first|done|rfl) rfl ?_
 exact⟨by rw[Z1.out.1,Z1.out.2.1,Z1.out.2.2,fl_zero],trw⟩
end Go.Proofs.YticobgianbecpaaGreatDoor
