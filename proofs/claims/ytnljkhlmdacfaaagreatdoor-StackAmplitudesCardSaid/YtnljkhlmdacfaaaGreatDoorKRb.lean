/- Joined: RTurLaw RTurA RTurB RTurC RTurn. -/
import Derived.Test.YtnljkhlmdacfaaaGreatDoorKRa
import Derived.Test.YtnljkhlmdacfaaaGreatDoorKMed
import Derived.Test.YtnljkhlmdacfaaaGreatDoorKTop
namespace Go.Proofs.YtnljkhlmdacfaaaGreatDoor
open Go Go.Sort Go.RowKit
theorem fine_bdR {R:Res} (h:Fine R):(-134217728≤R.a-R.c∧R.a-R.c≤134217728)∧(-134217728≤R.a+R.c∧R.a+R.c≤134217728)∧(-134217728≤R.b-R.c∧R.b-R.c≤134217728)∧(-134217728≤R.b+R.c∧R.b+R.c≤134217728):=by
 obtain⟨⟨b1,b2,b3,b4⟩,b5,b6⟩:=h.right
 omega
theorem r_positive (a b:Int) (w:World):Calls Tryz.prog 84 #[.agg #[.int .i64 a,.int .i64 b]] w fun E w'=>E = .returned (.agg #[.int .i64 (pos a),.int .i64 (pos b)])∧Below w.heap.size w w':=by
 unfold pos
 go_enter Tryz.func84,Tryz.ntmps84
 by_cases ha:a<0
 all_goals by_cases hb:b<0
 all_goals go_wp2
 all_goals refine bodyPost_ret (by simp[results,Tryz.results84,go_sem, *];first|done|rfl) rfl ?_
 all_goals exact⟨by simp[*]<;>omega,blw⟩
set_option maxHeartbeats 4000000 in
theorem rtur_D (B:Nat) (e:Int) (A:Ask) (n:Int) (Q nn:Res) (st:Bool) (NO:RNG n B e A Q nn st Q.q) (hq:¬Q.q=0) (w:World) (Aa:Rt B e A w) :
  Calls Tryz.prog 119 #[.pointer (some ⟨B,0,none⟩),A.val,.int .i64 n] w fun E w'=>E = .returned (.agg #[.int .i64 0,.int .i64 0,.int .i64 0,.int .i64 0])∧Trn B Q.q w w':=by
 have hq1:(Q.q != 0)=true:=by simpa using hq
 unfold RNG at NO
 unfold Ask.val at NO ⊢
 have NO:=Lib.hid NO
 clear hq
 have Bo:=Aa.st
 have C9:=tr_refl Bo
 have D2:=Bo.cell
 have D3:=Bo.free
 have D6:=Bo.lt
 have E3:=own5 D6
 go_enter Tryz.func119,Tryz.ntmps119
 go_wp2_with fail
 refine(NO.out _ (Rt.turn Aa (Trn.kp C9 kpw))).mono ?_
 rintro e w1 ⟨rfl,A6⟩
 have B8:=A6.size_le
 (try simp at B8)
 have Bc:=tn5 A6 (w.heap.size+1)
 obtain⟨Bp,D0,D1,D4,D5,C8⟩:=rkx Aa C9 kpw A6
 (try clear D2 D3)
 repeat' (first|go_values|go_skip|go_guarded|go_step|go_upon|(simp only[];go_simp))
 refine bodyPost_ret (by simp[results,Tryz.results119,go_sem, *];first|done|rfl) rfl ?_
 exact⟨rfl,trw⟩
end Go.Proofs.YtnljkhlmdacfaaaGreatDoor
namespace Go.Proofs.YtnljkhlmdacfaaaGreatDoor
open Go Go.Sort Go.RowKit
set_option maxHeartbeats 8000000 in
theorem rtur_A (B:Nat) (e:Int) (A:Ask) (n:Int) (b:Box) (hM:RMed A n b) (hp:TurPre A b) (Q nn:Res) (st:Bool) (NO:RNG n B e A Q nn st Q.q) (fQ:Fine Q) (hq:Q.q=0) (p0 p1 p2 p3:Int)
  (h0:Q.a-Q.c=p0) (h1:Q.a+Q.c=p1) (h2:Q.b-Q.c=p2) (h3:Q.b+Q.c=p3) (hl:¬b.lo=0) (w:World) (Aa:Rt B e A w) :
  Calls Tryz.prog 119 #[.pointer (some ⟨B,0,none⟩),A.val,.int .i64 n] w fun E w' =>
   E = .returned (.agg #[.int .i64 (dn (4*pos p0*b.tl) A.wh),.int .i64 (up (4*pos p1*b.th) A.wl),.int .i64 (dn (4*pos p2*b.tl) A.wh),.int .i64 (up (4*pos p3*b.th) A.wl)])∧Trn B Q.q w w':=by
 have hb:(-134217728≤p0∧p0≤134217728)∧(-134217728≤p1∧p1≤134217728)∧(-134217728≤p2∧p2≤134217728)∧(-134217728≤p3∧p3≤134217728):=by have:=fine_bdR fQ;rw[h0,h1,h2,h3]at this;exact this
 have PA:=fun w=>rParts_yes Q.a Q.b Q.c w fQ.right
 rw[h0,h1,h2,h3]at PA
 have PO1:=fun w=>r_positive p0 p1 w
 have PO2:=fun w=>r_positive p2 p3 w
 obtain⟨⟨a0,a1⟩,⟨a2,a3⟩,⟨a4,a5⟩,a6,a7⟩:=hb
 obtain⟨t0,t1,t2,t3,w0,w1,w2,w3,ln⟩:=hp
 have M0:=mul4_bd (p:=p0) a1 t0 t1
 have K0:=pos_bd p0 a1
 have M1:=mul4_bd (p:=p1) a3 t2 t3
 have K1:=pos_bd p1 a3
 have M2:=mul4_bd (p:=p2) a5 t0 t1
 have K2:=pos_bd p2 a5
 have M3:=mul4_bd (p:=p3) a7 t2 t3
 have K3:=pos_bd p3 a7
 generalize pos p0=P0 at *
 generalize pos p1=P1 at *
 generalize pos p2=P2 at *
 generalize pos p3=P3 at *
 have V0:IntKind.i64.wrap (4*P0)=4*P0:=IntWalk.i64_in _ ⟨by omega,by omega⟩
 have W0:IntKind.i64.wrap (4*P0*b.tl)=4*P0*b.tl:=IntWalk.i64_in _ ⟨by omega,by omega⟩
 have X0:wrap64 (4*P0*b.tl)=4*P0*b.tl:=IntWalk.wrap64_in _ ⟨by omega,by omega⟩
 have V1:IntKind.i64.wrap (4*P1)=4*P1:=IntWalk.i64_in _ ⟨by omega,by omega⟩
 have W1:IntKind.i64.wrap (4*P1*b.th)=4*P1*b.th:=IntWalk.i64_in _ ⟨by omega,by omega⟩
 have X1:wrap64 (4*P1*b.th)=4*P1*b.th:=IntWalk.wrap64_in _ ⟨by omega,by omega⟩
 have V2:IntKind.i64.wrap (4*P2)=4*P2:=IntWalk.i64_in _ ⟨by omega,by omega⟩
 have W2:IntKind.i64.wrap (4*P2*b.tl)=4*P2*b.tl:=IntWalk.i64_in _ ⟨by omega,by omega⟩
 have X2:wrap64 (4*P2*b.tl)=4*P2*b.tl:=IntWalk.wrap64_in _ ⟨by omega,by omega⟩
 have V3:IntKind.i64.wrap (4*P3)=4*P3:=IntWalk.i64_in _ ⟨by omega,by omega⟩
 have W3:IntKind.i64.wrap (4*P3*b.th)=4*P3*b.th:=IntWalk.i64_in _ ⟨by omega,by omega⟩
 have X3:wrap64 (4*P3*b.th)=4*P3*b.th:=IntWalk.wrap64_in _ ⟨by omega,by omega⟩
 have hl1:(b.lo==0)=false:=by simpa using hl
 have hq1:(Q.q != 0)=false:=by simpa using hq
 have HM:=hM.says
 unfold RNG at NO
 unfold Ask.val at NO HM ⊢
 have NO:=Lib.hid NO
 have HM:=Lib.hid HM
 have PA:=Lib.hid PA
 have PO1:=Lib.hid PO1
 have PO2:=Lib.hid PO2
 clear h0 h1 h2 h3 fQ hq hl hM a0 a1 a2 a3 a4 a5 a6 a7
 have Bo:=Aa.st
 have C9:=tr_refl Bo
 have D2:=Bo.cell
 have D3:=Bo.free
 have D6:=Bo.lt
 have E3:=own5 D6
 go_enter Tryz.func119,Tryz.ntmps119
 go_wp2_with fail
 refine(NO.out _ (Rt.turn Aa (Trn.kp C9 kpw))).mono ?_
 rintro e w1 ⟨rfl,A6⟩
 have B8:=A6.size_le
 (try simp at B8)
 have Ci:=tn5 A6 (w.heap.size)
 have Bc:=tn5 A6 (w.heap.size+1)
 obtain⟨Bp,D0,D1,D4,D5,C8⟩:=rkx Aa C9 kpw A6
 (try clear D2 D3)
 go_wp2_with fail
 refine(HM.out B Q.q _ (Rt.turn Aa (Trn.kp Bp kpw))).mono ?_
 rintro e w2 ⟨rfl,A7⟩
 have By:=A7.size
 (try simp at By)
 have Ck:=bl5 A7 (w.heap.size)
 have C1:=bl5 A7 (w.heap.size+1)
 have C5:=bl5 A7 (w1.heap.size)
 obtain⟨Ca,D8,Dh,Dr,E1,Cj⟩:=rkb Aa Bp kpw A7
 (try clear C8)
 go_wp2_with fail
 refine(PA.out _).mono ?_
 rintro e w3 ⟨rfl,A8⟩
 have Bz:=A8.size
 (try simp at Bz)
 have Cm:=bl5 A8 (w.heap.size)
 have C2:=bl5 A8 (w.heap.size+1)
 have C6:=bl5 A8 (w2.heap.size)
 obtain⟨Cb,D9,Di,Ds,E2,Cl⟩:=rkb Aa Ca kpw A8
 (try clear Cj)
 go_wp2_with fail
 refine calm_new 7 #[.int .i64 0,.int .i64 0,.int .i64 0,.int .i64 0] 87 _ rfl (by kernel_rfl) (by kernel_rfl) (fun a w=>by go_simp) fun hG => ?_
 have Aj:=hG (w.heap.size) lto
 have A3:=hG (w.heap.size+1) lto
 have A9:=hG (w2.heap.size) lto
 have Bt:=hG (w3.heap.size) lto
 have A2:=hG B lto
 clear hG
 simp only[List.take_succ_cons,List.take_zero,List.drop_succ_cons,List.drop_zero]
 repeat (refine wpCalm_step (fun K hK => ?_);go_simp;first|(refine hK _ ?_;clear hK K)|(apply Exists.intro;refine⟨fun _ => ?_,hK _ ?_⟩;(first|(go_at_call 84;first|with_reducible exact cal_call PO1.out|with_reducible exact cal_call PO2.out));clear hK K))
 refine wpCalm_nil ?_
 intro B1 w4 hN
 obtain⟨A5,A0,Ch,Br,Bs⟩:=hN
 (try simp at A0)
 clear Aj A3 A9 Bt A2
 have C0:=A5.size
 (try simp at C0)
 have Bd:=bl5 A5 (w.heap.size)
 have Al:=bl5 A5 (w.heap.size+1)
 have Ay:=bl5 A5 (w2.heap.size)
 have C7:=bl5 A5 (w3.heap.size)
 obtain⟨Cc,Da,Dj,Dt,Cs,Cn⟩:=rkb Aa Cb kpw A5
 (try clear Cl)
 have Bm:¬B1=B:=by first|omega|(simp at A0;omega)
 have Bk:¬B=B1:=by first|omega|(simp at A0;omega)
 have C4:¬B1=w.heap.size:=by first|omega|(simp at A0;omega)
 have C3:¬w.heap.size=B1:=by first|omega|(simp at A0;omega)
 have Bn:¬B1=w.heap.size+1:=by first|omega|(simp at A0;omega)
 have Bl:¬w.heap.size+1=B1:=by first|omega|(simp at A0;omega)
 have Bw:¬B1=w2.heap.size:=by first|omega|(simp at A0;omega)
 have Bu:¬w2.heap.size=B1:=by first|omega|(simp at A0;omega)
 have Bx:¬B1=w3.heap.size:=by first|omega|(simp at A0;omega)
 have Bv:¬w3.heap.size=B1:=by first|omega|(simp at A0;omega)
 repeat (first|(with_reducible refine wp_markr 11 ?_)|go_values|go_skip|go_guarded|go_step|go_upon|(simp only[];go_simp))
 refine wp_named (fun w5 A1 => ?_)
 have Ak:=congrArg (fun w=>w.heap.size) A1
 (try simp at Ak)
 replace Ak:=Nat.le_of_eq Ak.symm
 obtain⟨Cd,Db,Dk,Du,Ct,Co⟩:=rkn Aa Cc A1 kpw
 have Av:=cas A1 (w.heap.size) [.int .i64 A.ix,.int .i64 A.sl,.int .i64 A.sh,.int .i64 A.po,.int .i64 A.wl,.int .i64 A.wh,.slice A.pa A.ls.length A.cap,.int .i64 A.oi,.int .i64 A.ol]
 have Ae:=cas A1 (w.heap.size+1) [.int .i64 0,.int .i64 0,.int .i64 0,.int .i64 0]
 have Ai:=cas A1 (w2.heap.size) [.int .i64 b.il,.int .i64 b.ih,.int .i64 b.tl,.int .i64 b.th,.int .i64 b.lo]
 have Af:=cas A1 (B1) [.int .i64 P0,.int .i64 P1,.int .i64 P2,.int .i64 P3]
 simp only[CAf,Nat.reduceAdd,and_true]at Av Ae Ai Af
 clear A1
 (try clear Bd Al Ay Br Bs Cn Cs)
 go_wp2_with fail
 refine wp_loop_rounds 3 ?_
 rw[rounds_succ]
 go_wp2_with fail
 refine calm 29 (by kernel_rfl) (by kernel_rfl) fun hG => ?_
 have Aj:=hG (w.heap.size) lto
 have A3:=hG (w.heap.size+1) lto
 have A9:=hG (w2.heap.size) lto
 have Ad:=hG (B1) lto
 have A2:=hG B lto
 clear hG
 simp only[List.take_succ_cons,List.take_zero,List.drop_succ_cons,List.drop_zero]
 repeat (go_big_quiet_step (first|(go_at_call 87;with_reducible exact calm_same (fun w=>bfloor_dn _ _ w (by omega) (by omega) (by omega) (by omega)))|(go_at_call 88;with_reducible exact calm_same (fun w=>bceil_up _ _ w (by omega) (by omega) (by omega) (by omega)))))
 refine wpQuiet_nil ?_
 intro w6 Bi
 clear Aj A3 A9 Ad A2
 have Aw:=Bi.size
 (try simp at Aw)
 have Be:=bl5 Bi (w.heap.size)
 have Am:=bl5 Bi (w.heap.size+1)
 have Az:=bl5 Bi (w2.heap.size)
 have An:=bl5 Bi (B1)
 obtain⟨Ce,Dc,Dl,Dv,Cu,Cp⟩:=rkb Aa Cd kpw Bi
 (try clear Co Ct)
 repeat (first|(with_reducible refine wp_markr 13 ?_)|go_values|go_skip|go_guarded|go_step|go_upon|(simp only[];go_simp))
 refine wp_named (fun w7 B6 => ?_)
 have B9:=congrArg (fun w=>w.heap.size) B6
 (try simp at B9)
 replace B9:=Nat.le_of_eq B9.symm
 obtain⟨Cf,Dd,Dm,Dw,Cv,Cq⟩:=rkn Aa Ce B6 kpw
 have Bf:=cas B6 (w.heap.size) [.int .i64 A.ix,.int .i64 A.sl,.int .i64 A.sh,.int .i64 A.po,.int .i64 A.wl,.int .i64 A.wh,.slice A.pa A.ls.length A.cap,.int .i64 A.oi,.int .i64 A.ol]
 have Ao:=cas B6 (w.heap.size+1) [.int .i64 0,.int .i64 0,.int .i64 0,.int .i64 0]
 have B0:=cas B6 (w2.heap.size) [.int .i64 b.il,.int .i64 b.ih,.int .i64 b.tl,.int .i64 b.th,.int .i64 b.lo]
 have Ap:=cas B6 (B1) [.int .i64 (dn (4*P0*b.tl) A.wh),.int .i64 (up (4*P1*b.th) A.wl),.int .i64 P2,.int .i64 P3]
 simp only[CAf,Nat.reduceAdd,and_true]at Bf Ao B0 Ap
 clear B6
 (try clear Be Am Az An Cp Cu)
 go_wp2_with fail
 rw[rounds_succ]
 go_wp2_with fail
 refine calm 29 (by kernel_rfl) (by kernel_rfl) fun hG => ?_
 have Aj:=hG (w.heap.size) lto
 have A3:=hG (w.heap.size+1) lto
 have A9:=hG (w2.heap.size) lto
 have Ad:=hG (B1) lto
 have A2:=hG B lto
 clear hG
 simp only[List.take_succ_cons,List.take_zero,List.drop_succ_cons,List.drop_zero]
 repeat (go_big_quiet_step (first|(go_at_call 87;with_reducible exact calm_same (fun w=>bfloor_dn _ _ w (by omega) (by omega) (by omega) (by omega)))|(go_at_call 88;with_reducible exact calm_same (fun w=>bceil_up _ _ w (by omega) (by omega) (by omega) (by omega)))))
 refine wpQuiet_nil ?_
 intro w8 Bj
 clear Aj A3 A9 Ad A2
 have Ax:=Bj.size
 (try simp at Ax)
 have Bg:=bl5 Bj (w.heap.size)
 have Aq:=bl5 Bj (w.heap.size+1)
 have B2:=bl5 Bj (w2.heap.size)
 have Ar:=bl5 Bj (B1)
 obtain⟨Cg,De,Dn,Dx,Cw,Cr⟩:=rkb Aa Cf kpw Bj
 (try clear Cq Cv)
 repeat (first|(with_reducible refine wp_markr 13 ?_)|go_values|go_skip|go_guarded|go_step|go_upon|(simp only[];go_simp))
 refine wp_named (fun w9 B7 => ?_)
 have Ba:=congrArg (fun w=>w.heap.size) B7
 (try simp at Ba)
 replace Ba:=Nat.le_of_eq Ba.symm
 obtain⟨Cx,Df,Do,Dy,Cz,Cy⟩:=rkn Aa Cg B7 kpw
 have Bh:=cas B7 (w.heap.size) [.int .i64 A.ix,.int .i64 A.sl,.int .i64 A.sh,.int .i64 A.po,.int .i64 A.wl,.int .i64 A.wh,.slice A.pa A.ls.length A.cap,.int .i64 A.oi,.int .i64 A.ol]
 have As:=cas B7 (w.heap.size+1) [.int .i64 0,.int .i64 0,.int .i64 0,.int .i64 0]
 have B3:=cas B7 (w2.heap.size) [.int .i64 b.il,.int .i64 b.ih,.int .i64 b.tl,.int .i64 b.th,.int .i64 b.lo]
 have At:=cas B7 (B1) [.int .i64 (dn (4*P0*b.tl) A.wh),.int .i64 (up (4*P1*b.th) A.wl),.int .i64 (dn (4*P2*b.tl) A.wh),.int .i64 (up (4*P3*b.th) A.wl)]
 simp only[CAf,Nat.reduceAdd,and_true]at Bh As B3 At
 clear B7
 (try clear Bg Aq B2 Ar Cr Cw)
 go_wp2_with fail
 rw[rounds_succ]
 repeat' (first|go_values|go_skip|go_guarded|go_step|go_upon|(simp only[];go_simp))
 refine bodyPost_ret (by simp[results,Tryz.results119,go_sem, *];first|done|rfl) rfl ?_
 exact⟨rfl,trw⟩
end Go.Proofs.YtnljkhlmdacfaaaGreatDoor
namespace Go.Proofs.YtnljkhlmdacfaaaGreatDoor
open Go Go.Sort Go.RowKit
set_option maxHeartbeats 8000000 in
theorem rtur_B (B:Nat) (e:Int) (A:Ask) (n:Int) (b:Box) (hM:RMed A n b) (hp:TurPre A b) (Q nn:Res) (st:Bool) (NO:RNG n B e A Q nn st Q.q) (fQ:Fine Q) (hq:Q.q=0) (p0 p1 p2 p3:Int)
  (h0:Q.a-Q.c=p0) (h1:Q.a+Q.c=p1) (h2:Q.b-Q.c=p2) (h3:Q.b+Q.c=p3) (hl:b.lo=0) (hst:st=true) (w:World) (Aa:Rt B e A w) :
  Calls Tryz.prog 119 #[.pointer (some ⟨B,0,none⟩),A.val,.int .i64 n] w fun E w' =>
   E = .returned (.agg #[.int .i64 (dn 0 A.wh),.int .i64 (up 0 A.wl),.int .i64 (dn (4*pos p2*b.tl) A.wh),.int .i64 (up (4*pos p3*b.th) A.wl)])∧Trn B Q.q w w':=by
 have hb:(-134217728≤p0∧p0≤134217728)∧(-134217728≤p1∧p1≤134217728)∧(-134217728≤p2∧p2≤134217728)∧(-134217728≤p3∧p3≤134217728):=by have:=fine_bdR fQ;rw[h0,h1,h2,h3]at this;exact this
 have PA:=fun w=>rParts_yes Q.a Q.b Q.c w fQ.right
 rw[h0,h1,h2,h3]at PA
 have PO1:=fun w=>r_positive p0 p1 w
 have PO2:=fun w=>r_positive p2 p3 w
 obtain⟨⟨a0,a1⟩,⟨a2,a3⟩,⟨a4,a5⟩,a6,a7⟩:=hb
 obtain⟨t0,t1,t2,t3,w0,w1,w2,w3,ln⟩:=hp
 have M0:=mul4_bd (p:=p0) a1 t0 t1
 have K0:=pos_bd p0 a1
 have M1:=mul4_bd (p:=p1) a3 t2 t3
 have K1:=pos_bd p1 a3
 have M2:=mul4_bd (p:=p2) a5 t0 t1
 have K2:=pos_bd p2 a5
 have M3:=mul4_bd (p:=p3) a7 t2 t3
 have K3:=pos_bd p3 a7
 generalize pos p0=P0 at *
 generalize pos p1=P1 at *
 generalize pos p2=P2 at *
 generalize pos p3=P3 at *
 have V2:IntKind.i64.wrap (4*P2)=4*P2:=IntWalk.i64_in _ ⟨by omega,by omega⟩
 have W2:IntKind.i64.wrap (4*P2*b.tl)=4*P2*b.tl:=IntWalk.i64_in _ ⟨by omega,by omega⟩
 have X2:wrap64 (4*P2*b.tl)=4*P2*b.tl:=IntWalk.wrap64_in _ ⟨by omega,by omega⟩
 have V3:IntKind.i64.wrap (4*P3)=4*P3:=IntWalk.i64_in _ ⟨by omega,by omega⟩
 have W3:IntKind.i64.wrap (4*P3*b.th)=4*P3*b.th:=IntWalk.i64_in _ ⟨by omega,by omega⟩
 have X3:wrap64 (4*P3*b.th)=4*P3*b.th:=IntWalk.wrap64_in _ ⟨by omega,by omega⟩
 have hl1:(b.lo==0)=true:=by simpa using hl
 subst hst
 have hq1:(Q.q != 0)=false:=by simpa using hq
 have HM:=hM.says
 unfold RNG at NO
 unfold Ask.val at NO HM ⊢
 have NO:=Lib.hid NO
 have HM:=Lib.hid HM
 have PA:=Lib.hid PA
 have PO1:=Lib.hid PO1
 have PO2:=Lib.hid PO2
 clear h0 h1 h2 h3 fQ hq hl hM a0 a1 a2 a3 a4 a5 a6 a7
 have Bo:=Aa.st
 have C9:=tr_refl Bo
 have D2:=Bo.cell
 have D3:=Bo.free
 have D6:=Bo.lt
 have E3:=own5 D6
 go_enter Tryz.func119,Tryz.ntmps119
 go_wp2_with fail
 refine(NO.out _ (Rt.turn Aa (Trn.kp C9 kpw))).mono ?_
 rintro e w1 ⟨rfl,A6⟩
 have B8:=A6.size_le
 (try simp at B8)
 have Ci:=tn5 A6 (w.heap.size)
 have Bc:=tn5 A6 (w.heap.size+1)
 obtain⟨Bp,D0,D1,D4,D5,C8⟩:=rkx Aa C9 kpw A6
 (try clear D2 D3)
 go_wp2_with fail
 refine(HM.out B Q.q _ (Rt.turn Aa (Trn.kp Bp kpw))).mono ?_
 rintro e w2 ⟨rfl,A7⟩
 have By:=A7.size
 (try simp at By)
 have Ck:=bl5 A7 (w.heap.size)
 have C1:=bl5 A7 (w.heap.size+1)
 have C5:=bl5 A7 (w1.heap.size)
 obtain⟨Ca,D8,Dh,Dr,E1,Cj⟩:=rkb Aa Bp kpw A7
 (try clear C8)
 go_wp2_with fail
 refine(PA.out _).mono ?_
 rintro e w3 ⟨rfl,A8⟩
 have Bz:=A8.size
 (try simp at Bz)
 have Cm:=bl5 A8 (w.heap.size)
 have C2:=bl5 A8 (w.heap.size+1)
 have C6:=bl5 A8 (w2.heap.size)
 obtain⟨Cb,D9,Di,Ds,E2,Cl⟩:=rkb Aa Ca kpw A8
 (try clear Cj)
 go_wp2_with fail
 refine calm_new 7 #[.int .i64 0,.int .i64 0,.int .i64 0,.int .i64 0] 87 _ rfl (by kernel_rfl) (by kernel_rfl) (fun a w=>by go_simp) fun hG => ?_
 have Aj:=hG (w.heap.size) lto
 have A3:=hG (w.heap.size+1) lto
 have A9:=hG (w2.heap.size) lto
 have Bt:=hG (w3.heap.size) lto
 have A2:=hG B lto
 clear hG
 simp only[List.take_succ_cons,List.take_zero,List.drop_succ_cons,List.drop_zero]
 repeat (refine wpCalm_step (fun K hK => ?_);go_simp;first|(refine hK _ ?_;clear hK K)|(apply Exists.intro;refine⟨fun _ => ?_,hK _ ?_⟩;(first|(go_at_call 84;first|with_reducible exact cal_call PO1.out|with_reducible exact cal_call PO2.out));clear hK K))
 refine wpCalm_nil ?_
 intro B1 w4 hN
 obtain⟨A5,A0,Ch,Br,Bs⟩:=hN
 (try simp at A0)
 clear Aj A3 A9 Bt A2
 have C0:=A5.size
 (try simp at C0)
 have Bd:=bl5 A5 (w.heap.size)
 have Al:=bl5 A5 (w.heap.size+1)
 have Ay:=bl5 A5 (w2.heap.size)
 have C7:=bl5 A5 (w3.heap.size)
 obtain⟨Cc,Da,Dj,Dt,Cs,Cn⟩:=rkb Aa Cb kpw A5
 (try clear Cl)
 have Bm:¬B1=B:=by first|omega|(simp at A0;omega)
 have Bk:¬B=B1:=by first|omega|(simp at A0;omega)
 have C4:¬B1=w.heap.size:=by first|omega|(simp at A0;omega)
 have C3:¬w.heap.size=B1:=by first|omega|(simp at A0;omega)
 have Bn:¬B1=w.heap.size+1:=by first|omega|(simp at A0;omega)
 have Bl:¬w.heap.size+1=B1:=by first|omega|(simp at A0;omega)
 have Bw:¬B1=w2.heap.size:=by first|omega|(simp at A0;omega)
 have Bu:¬w2.heap.size=B1:=by first|omega|(simp at A0;omega)
 have Bx:¬B1=w3.heap.size:=by first|omega|(simp at A0;omega)
 have Bv:¬w3.heap.size=B1:=by first|omega|(simp at A0;omega)
 repeat (first|(with_reducible refine wp_markr 8 ?_)|go_values|go_skip|go_guarded|go_step|go_upon|(simp only[];go_simp))
 refine wp_named (fun w5 A1 => ?_)
 have Ak:=congrArg (fun w=>w.heap.size) A1
 (try simp at Ak)
 replace Ak:=Nat.le_of_eq Ak.symm
 obtain⟨Cd,Db,Dk,Du,Ct,Co⟩:=rkn Aa Cc A1 kpw
 have Av:=cas A1 (w.heap.size) [.int .i64 A.ix,.int .i64 A.sl,.int .i64 A.sh,.int .i64 A.po,.int .i64 A.wl,.int .i64 A.wh,.slice A.pa A.ls.length A.cap,.int .i64 A.oi,.int .i64 A.ol]
 have Ae:=cas A1 (w.heap.size+1) [.int .i64 0,.int .i64 0,.int .i64 0,.int .i64 0]
 have Ai:=cas A1 (w2.heap.size) [.int .i64 b.il,.int .i64 b.ih,.int .i64 b.tl,.int .i64 b.th,.int .i64 b.lo]
 have Af:=cas A1 (B1) [.int .i64 P0,.int .i64 P1,.int .i64 P2,.int .i64 P3]
 simp only[CAf,Nat.reduceAdd,and_true]at Av Ae Ai Af
 clear A1
 (try clear Bd Al Ay Br Bs Cn Cs)
 repeat (first|(with_reducible refine wp_markr 11 ?_)|go_values|go_skip|go_guarded|go_step|go_upon|(simp only[];go_simp))
 refine wp_named (fun w6 Ab => ?_)
 have Aw:=congrArg (fun w=>w.heap.size) Ab
 (try simp at Aw)
 replace Aw:=Nat.le_of_eq Aw.symm
 obtain⟨Ce,Dc,Dl,Dv,Cu,Cp⟩:=rkn Aa Cd Ab kpw
 have Be:=cas Ab (w.heap.size) [.int .i64 A.ix,.int .i64 A.sl,.int .i64 A.sh,.int .i64 A.po,.int .i64 A.wl,.int .i64 A.wh,.slice A.pa A.ls.length A.cap,.int .i64 A.oi,.int .i64 A.ol]
 have Am:=cas Ab (w.heap.size+1) [.int .i64 0,.int .i64 0,.int .i64 0,.int .i64 0]
 have Az:=cas Ab (w2.heap.size) [.int .i64 b.il,.int .i64 b.ih,.int .i64 b.tl,.int .i64 b.th,.int .i64 b.lo]
 have An:=cas Ab (B1) [.int .i64 0,.int .i64 0,.int .i64 P2,.int .i64 P3]
 simp only[CAf,Nat.reduceAdd,and_true]at Be Am Az An
 clear Ab
 (try clear Av Ae Ai Af Co Ct)
 go_wp2_with fail
 refine wp_loop_rounds 3 ?_
 rw[rounds_succ]
 go_wp2_with fail
 refine calm 29 (by kernel_rfl) (by kernel_rfl) fun hG => ?_
 have Aj:=hG (w.heap.size) lto
 have A3:=hG (w.heap.size+1) lto
 have A9:=hG (w2.heap.size) lto
 have Ad:=hG (B1) lto
 have A2:=hG B lto
 clear hG
 simp only[List.take_succ_cons,List.take_zero,List.drop_succ_cons,List.drop_zero]
 repeat (go_big_quiet_step (first|(go_at_call 87;with_reducible exact calm_same (fun w=>bfloor_dn _ _ w (by omega) (by omega) (by omega) (by omega)))|(go_at_call 88;with_reducible exact calm_same (fun w=>bceil_up _ _ w (by omega) (by omega) (by omega) (by omega)))))
 refine wpQuiet_nil ?_
 intro w7 Ag
 clear Aj A3 A9 Ad A2
 have B9:=Ag.size
 (try simp at B9)
 have Bf:=bl5 Ag (w.heap.size)
 have Ao:=bl5 Ag (w.heap.size+1)
 have B0:=bl5 Ag (w2.heap.size)
 have Ap:=bl5 Ag (B1)
 obtain⟨Cf,Dd,Dm,Dw,Cv,Cq⟩:=rkb Aa Ce kpw Ag
 (try clear Cp Cu)
 repeat (first|(with_reducible refine wp_markr 13 ?_)|go_values|go_skip|go_guarded|go_step|go_upon|(simp only[];go_simp))
 refine wp_named (fun w8 Ac => ?_)
 have Ax:=congrArg (fun w=>w.heap.size) Ac
 (try simp at Ax)
 replace Ax:=Nat.le_of_eq Ax.symm
 obtain⟨Cg,De,Dn,Dx,Cw,Cr⟩:=rkn Aa Cf Ac kpw
 have Bg:=cas Ac (w.heap.size) [.int .i64 A.ix,.int .i64 A.sl,.int .i64 A.sh,.int .i64 A.po,.int .i64 A.wl,.int .i64 A.wh,.slice A.pa A.ls.length A.cap,.int .i64 A.oi,.int .i64 A.ol]
 have Aq:=cas Ac (w.heap.size+1) [.int .i64 0,.int .i64 0,.int .i64 0,.int .i64 0]
 have B2:=cas Ac (w2.heap.size) [.int .i64 b.il,.int .i64 b.ih,.int .i64 b.tl,.int .i64 b.th,.int .i64 b.lo]
 have Ar:=cas Ac (B1) [.int .i64 (dn 0 A.wh),.int .i64 (up 0 A.wl),.int .i64 P2,.int .i64 P3]
 simp only[CAf,Nat.reduceAdd,and_true]at Bg Aq B2 Ar
 clear Ac
 (try clear Bf Ao B0 Ap Cq Cv)
 go_wp2_with fail
 rw[rounds_succ]
 go_wp2_with fail
 refine calm 29 (by kernel_rfl) (by kernel_rfl) fun hG => ?_
 have Aj:=hG (w.heap.size) lto
 have A3:=hG (w.heap.size+1) lto
 have A9:=hG (w2.heap.size) lto
 have Ad:=hG (B1) lto
 have A2:=hG B lto
 clear hG
 simp only[List.take_succ_cons,List.take_zero,List.drop_succ_cons,List.drop_zero]
 repeat (go_big_quiet_step (first|(go_at_call 87;with_reducible exact calm_same (fun w=>bfloor_dn _ _ w (by omega) (by omega) (by omega) (by omega)))|(go_at_call 88;with_reducible exact calm_same (fun w=>bceil_up _ _ w (by omega) (by omega) (by omega) (by omega)))))
 refine wpQuiet_nil ?_
 intro w9 Ah
 clear Aj A3 A9 Ad A2
 have Ba:=Ah.size
 (try simp at Ba)
 have Bh:=bl5 Ah (w.heap.size)
 have As:=bl5 Ah (w.heap.size+1)
 have B3:=bl5 Ah (w2.heap.size)
 have At:=bl5 Ah (B1)
 obtain⟨Cx,Df,Do,Dy,Cz,Cy⟩:=rkb Aa Cg kpw Ah
 (try clear Cr Cw)
 repeat (first|(with_reducible refine wp_markr 13 ?_)|go_values|go_skip|go_guarded|go_step|go_upon|(simp only[];go_simp))
 refine wp_named (fun w10 A4 => ?_)
 have Au:=congrArg (fun w=>w.heap.size) A4
 (try simp at Au)
 replace Au:=Nat.le_of_eq Au.symm
 obtain⟨Dp,D7,Dg,Dq,E0,Dz⟩:=rkn Aa Cx A4 kpw
 have Bq:=cas A4 (w.heap.size) [.int .i64 A.ix,.int .i64 A.sl,.int .i64 A.sh,.int .i64 A.po,.int .i64 A.wl,.int .i64 A.wh,.slice A.pa A.ls.length A.cap,.int .i64 A.oi,.int .i64 A.ol]
 have B4:=cas A4 (w.heap.size+1) [.int .i64 0,.int .i64 0,.int .i64 0,.int .i64 0]
 have Bb:=cas A4 (w2.heap.size) [.int .i64 b.il,.int .i64 b.ih,.int .i64 b.tl,.int .i64 b.th,.int .i64 b.lo]
 have B5:=cas A4 (B1) [.int .i64 (dn 0 A.wh),.int .i64 (up 0 A.wl),.int .i64 (dn (4*P2*b.tl) A.wh),.int .i64 (up (4*P3*b.th) A.wl)]
 simp only[CAf,Nat.reduceAdd,and_true]at Bq B4 Bb B5
 clear A4
 (try clear Bh As B3 At Cy Cz)
 go_wp2_with fail
 rw[rounds_succ]
 repeat' (first|go_values|go_skip|go_guarded|go_step|go_upon|(simp only[];go_simp))
 refine bodyPost_ret (by simp[results,Tryz.results119,go_sem, *];first|done|rfl) rfl ?_
 exact⟨rfl,trw⟩
end Go.Proofs.YtnljkhlmdacfaaaGreatDoor
namespace Go.Proofs.YtnljkhlmdacfaaaGreatDoor
open Go Go.Sort Go.RowKit
set_option maxHeartbeats 8000000 in
theorem rtur_C (B:Nat) (e:Int) (A:Ask) (n:Int) (b:Box) (hM:RMed A n b) (hp:TurPre A b) (Q nn:Res) (st:Bool) (NO:RNG n B e A Q nn st Q.q) (fQ:Fine Q) (hq:Q.q=0) (p0 p1 p2 p3:Int)
  (h0:Q.a-Q.c=p0) (h1:Q.a+Q.c=p1) (h2:Q.b-Q.c=p2) (h3:Q.b+Q.c=p3) (hl:b.lo=0) (hst:st=false) (w:World) (Aa:Rt B e A w) :
  Calls Tryz.prog 119 #[.pointer (some ⟨B,0,none⟩),A.val,.int .i64 n] w fun E w' =>
   E = .returned (.agg #[.int .i64 (dn (4*pos p0*b.tl) A.wh),.int .i64 (up (4*pos p1*b.th) A.wl),.int .i64 (dn 0 A.wh),.int .i64 (up 0 A.wl)])∧Trn B Q.q w w':=by
 have hb:(-134217728≤p0∧p0≤134217728)∧(-134217728≤p1∧p1≤134217728)∧(-134217728≤p2∧p2≤134217728)∧(-134217728≤p3∧p3≤134217728):=by have:=fine_bdR fQ;rw[h0,h1,h2,h3]at this;exact this
 have PA:=fun w=>rParts_yes Q.a Q.b Q.c w fQ.right
 rw[h0,h1,h2,h3]at PA
 have PO1:=fun w=>r_positive p0 p1 w
 have PO2:=fun w=>r_positive p2 p3 w
 obtain⟨⟨a0,a1⟩,⟨a2,a3⟩,⟨a4,a5⟩,a6,a7⟩:=hb
 obtain⟨t0,t1,t2,t3,w0,w1,w2,w3,ln⟩:=hp
 have M0:=mul4_bd (p:=p0) a1 t0 t1
 have K0:=pos_bd p0 a1
 have M1:=mul4_bd (p:=p1) a3 t2 t3
 have K1:=pos_bd p1 a3
 have M2:=mul4_bd (p:=p2) a5 t0 t1
 have K2:=pos_bd p2 a5
 have M3:=mul4_bd (p:=p3) a7 t2 t3
 have K3:=pos_bd p3 a7
 generalize pos p0=P0 at *
 generalize pos p1=P1 at *
 generalize pos p2=P2 at *
 generalize pos p3=P3 at *
 have V0:IntKind.i64.wrap (4*P0)=4*P0:=IntWalk.i64_in _ ⟨by omega,by omega⟩
 have W0:IntKind.i64.wrap (4*P0*b.tl)=4*P0*b.tl:=IntWalk.i64_in _ ⟨by omega,by omega⟩
 have X0:wrap64 (4*P0*b.tl)=4*P0*b.tl:=IntWalk.wrap64_in _ ⟨by omega,by omega⟩
 have V1:IntKind.i64.wrap (4*P1)=4*P1:=IntWalk.i64_in _ ⟨by omega,by omega⟩
 have W1:IntKind.i64.wrap (4*P1*b.th)=4*P1*b.th:=IntWalk.i64_in _ ⟨by omega,by omega⟩
 have X1:wrap64 (4*P1*b.th)=4*P1*b.th:=IntWalk.wrap64_in _ ⟨by omega,by omega⟩
 have hl1:(b.lo==0)=true:=by simpa using hl
 subst hst
 have hq1:(Q.q != 0)=false:=by simpa using hq
 have HM:=hM.says
 unfold RNG at NO
 unfold Ask.val at NO HM ⊢
 have NO:=Lib.hid NO
 have HM:=Lib.hid HM
 have PA:=Lib.hid PA
 have PO1:=Lib.hid PO1
 have PO2:=Lib.hid PO2
 clear h0 h1 h2 h3 fQ hq hl hM a0 a1 a2 a3 a4 a5 a6 a7
 have Bo:=Aa.st
 have C9:=tr_refl Bo
 have D2:=Bo.cell
 have D3:=Bo.free
 have D6:=Bo.lt
 have E3:=own5 D6
 go_enter Tryz.func119,Tryz.ntmps119
 go_wp2_with fail
 refine(NO.out _ (Rt.turn Aa (Trn.kp C9 kpw))).mono ?_
 rintro e w1 ⟨rfl,A6⟩
 have B8:=A6.size_le
 (try simp at B8)
 have Ci:=tn5 A6 (w.heap.size)
 have Bc:=tn5 A6 (w.heap.size+1)
 obtain⟨Bp,D0,D1,D4,D5,C8⟩:=rkx Aa C9 kpw A6
 (try clear D2 D3)
 go_wp2_with fail
 refine(HM.out B Q.q _ (Rt.turn Aa (Trn.kp Bp kpw))).mono ?_
 rintro e w2 ⟨rfl,A7⟩
 have By:=A7.size
 (try simp at By)
 have Ck:=bl5 A7 (w.heap.size)
 have C1:=bl5 A7 (w.heap.size+1)
 have C5:=bl5 A7 (w1.heap.size)
 obtain⟨Ca,D8,Dh,Dr,E1,Cj⟩:=rkb Aa Bp kpw A7
 (try clear C8)
 go_wp2_with fail
 refine(PA.out _).mono ?_
 rintro e w3 ⟨rfl,A8⟩
 have Bz:=A8.size
 (try simp at Bz)
 have Cm:=bl5 A8 (w.heap.size)
 have C2:=bl5 A8 (w.heap.size+1)
 have C6:=bl5 A8 (w2.heap.size)
 obtain⟨Cb,D9,Di,Ds,E2,Cl⟩:=rkb Aa Ca kpw A8
 (try clear Cj)
 go_wp2_with fail
 refine calm_new 7 #[.int .i64 0,.int .i64 0,.int .i64 0,.int .i64 0] 87 _ rfl (by kernel_rfl) (by kernel_rfl) (fun a w=>by go_simp) fun hG => ?_
 have Aj:=hG (w.heap.size) lto
 have A3:=hG (w.heap.size+1) lto
 have A9:=hG (w2.heap.size) lto
 have Bt:=hG (w3.heap.size) lto
 have A2:=hG B lto
 clear hG
 simp only[List.take_succ_cons,List.take_zero,List.drop_succ_cons,List.drop_zero]
 repeat (refine wpCalm_step (fun K hK => ?_);go_simp;first|(refine hK _ ?_;clear hK K)|(apply Exists.intro;refine⟨fun _ => ?_,hK _ ?_⟩;(first|(go_at_call 84;first|with_reducible exact cal_call PO1.out|with_reducible exact cal_call PO2.out));clear hK K))
 refine wpCalm_nil ?_
 intro B1 w4 hN
 obtain⟨A5,A0,Ch,Br,Bs⟩:=hN
 (try simp at A0)
 clear Aj A3 A9 Bt A2
 have C0:=A5.size
 (try simp at C0)
 have Bd:=bl5 A5 (w.heap.size)
 have Al:=bl5 A5 (w.heap.size+1)
 have Ay:=bl5 A5 (w2.heap.size)
 have C7:=bl5 A5 (w3.heap.size)
 obtain⟨Cc,Da,Dj,Dt,Cs,Cn⟩:=rkb Aa Cb kpw A5
 (try clear Cl)
 have Bm:¬B1=B:=by first|omega|(simp at A0;omega)
 have Bk:¬B=B1:=by first|omega|(simp at A0;omega)
 have C4:¬B1=w.heap.size:=by first|omega|(simp at A0;omega)
 have C3:¬w.heap.size=B1:=by first|omega|(simp at A0;omega)
 have Bn:¬B1=w.heap.size+1:=by first|omega|(simp at A0;omega)
 have Bl:¬w.heap.size+1=B1:=by first|omega|(simp at A0;omega)
 have Bw:¬B1=w2.heap.size:=by first|omega|(simp at A0;omega)
 have Bu:¬w2.heap.size=B1:=by first|omega|(simp at A0;omega)
 have Bx:¬B1=w3.heap.size:=by first|omega|(simp at A0;omega)
 have Bv:¬w3.heap.size=B1:=by first|omega|(simp at A0;omega)
 repeat (first|(with_reducible refine wp_markr 10 ?_)|go_values|go_skip|go_guarded|go_step|go_upon|(simp only[];go_simp))
 refine wp_named (fun w5 A1 => ?_)
 have Ak:=congrArg (fun w=>w.heap.size) A1
 (try simp at Ak)
 replace Ak:=Nat.le_of_eq Ak.symm
 obtain⟨Cd,Db,Dk,Du,Ct,Co⟩:=rkn Aa Cc A1 kpw
 have Av:=cas A1 (w.heap.size) [.int .i64 A.ix,.int .i64 A.sl,.int .i64 A.sh,.int .i64 A.po,.int .i64 A.wl,.int .i64 A.wh,.slice A.pa A.ls.length A.cap,.int .i64 A.oi,.int .i64 A.ol]
 have Ae:=cas A1 (w.heap.size+1) [.int .i64 0,.int .i64 0,.int .i64 0,.int .i64 0]
 have Ai:=cas A1 (w2.heap.size) [.int .i64 b.il,.int .i64 b.ih,.int .i64 b.tl,.int .i64 b.th,.int .i64 b.lo]
 have Af:=cas A1 (B1) [.int .i64 P0,.int .i64 P1,.int .i64 P2,.int .i64 P3]
 simp only[CAf,Nat.reduceAdd,and_true]at Av Ae Ai Af
 clear A1
 (try clear Bd Al Ay Br Bs Cn Cs)
 repeat (first|(with_reducible refine wp_markr 11 ?_)|go_values|go_skip|go_guarded|go_step|go_upon|(simp only[];go_simp))
 refine wp_named (fun w6 Ab => ?_)
 have Aw:=congrArg (fun w=>w.heap.size) Ab
 (try simp at Aw)
 replace Aw:=Nat.le_of_eq Aw.symm
 obtain⟨Ce,Dc,Dl,Dv,Cu,Cp⟩:=rkn Aa Cd Ab kpw
 have Be:=cas Ab (w.heap.size) [.int .i64 A.ix,.int .i64 A.sl,.int .i64 A.sh,.int .i64 A.po,.int .i64 A.wl,.int .i64 A.wh,.slice A.pa A.ls.length A.cap,.int .i64 A.oi,.int .i64 A.ol]
 have Am:=cas Ab (w.heap.size+1) [.int .i64 0,.int .i64 0,.int .i64 0,.int .i64 0]
 have Az:=cas Ab (w2.heap.size) [.int .i64 b.il,.int .i64 b.ih,.int .i64 b.tl,.int .i64 b.th,.int .i64 b.lo]
 have An:=cas Ab (B1) [.int .i64 P0,.int .i64 P1,.int .i64 0,.int .i64 0]
 simp only[CAf,Nat.reduceAdd,and_true]at Be Am Az An
 clear Ab
 (try clear Av Ae Ai Af Co Ct)
 go_wp2_with fail
 refine wp_loop_rounds 3 ?_
 rw[rounds_succ]
 go_wp2_with fail
 refine calm 29 (by kernel_rfl) (by kernel_rfl) fun hG => ?_
 have Aj:=hG (w.heap.size) lto
 have A3:=hG (w.heap.size+1) lto
 have A9:=hG (w2.heap.size) lto
 have Ad:=hG (B1) lto
 have A2:=hG B lto
 clear hG
 simp only[List.take_succ_cons,List.take_zero,List.drop_succ_cons,List.drop_zero]
 repeat (go_big_quiet_step (first|(go_at_call 87;with_reducible exact calm_same (fun w=>bfloor_dn _ _ w (by omega) (by omega) (by omega) (by omega)))|(go_at_call 88;with_reducible exact calm_same (fun w=>bceil_up _ _ w (by omega) (by omega) (by omega) (by omega)))))
 refine wpQuiet_nil ?_
 intro w7 Ag
 clear Aj A3 A9 Ad A2
 have B9:=Ag.size
 (try simp at B9)
 have Bf:=bl5 Ag (w.heap.size)
 have Ao:=bl5 Ag (w.heap.size+1)
 have B0:=bl5 Ag (w2.heap.size)
 have Ap:=bl5 Ag (B1)
 obtain⟨Cf,Dd,Dm,Dw,Cv,Cq⟩:=rkb Aa Ce kpw Ag
 (try clear Cp Cu)
 repeat (first|(with_reducible refine wp_markr 13 ?_)|go_values|go_skip|go_guarded|go_step|go_upon|(simp only[];go_simp))
 refine wp_named (fun w8 Ac => ?_)
 have Ax:=congrArg (fun w=>w.heap.size) Ac
 (try simp at Ax)
 replace Ax:=Nat.le_of_eq Ax.symm
 obtain⟨Cg,De,Dn,Dx,Cw,Cr⟩:=rkn Aa Cf Ac kpw
 have Bg:=cas Ac (w.heap.size) [.int .i64 A.ix,.int .i64 A.sl,.int .i64 A.sh,.int .i64 A.po,.int .i64 A.wl,.int .i64 A.wh,.slice A.pa A.ls.length A.cap,.int .i64 A.oi,.int .i64 A.ol]
 have Aq:=cas Ac (w.heap.size+1) [.int .i64 0,.int .i64 0,.int .i64 0,.int .i64 0]
 have B2:=cas Ac (w2.heap.size) [.int .i64 b.il,.int .i64 b.ih,.int .i64 b.tl,.int .i64 b.th,.int .i64 b.lo]
 have Ar:=cas Ac (B1) [.int .i64 (dn (4*P0*b.tl) A.wh),.int .i64 (up (4*P1*b.th) A.wl),.int .i64 0,.int .i64 0]
 simp only[CAf,Nat.reduceAdd,and_true]at Bg Aq B2 Ar
 clear Ac
 (try clear Bf Ao B0 Ap Cq Cv)
 go_wp2_with fail
 rw[rounds_succ]
 go_wp2_with fail
 refine calm 29 (by kernel_rfl) (by kernel_rfl) fun hG => ?_
 have Aj:=hG (w.heap.size) lto
 have A3:=hG (w.heap.size+1) lto
 have A9:=hG (w2.heap.size) lto
 have Ad:=hG (B1) lto
 have A2:=hG B lto
 clear hG
 simp only[List.take_succ_cons,List.take_zero,List.drop_succ_cons,List.drop_zero]
 repeat (go_big_quiet_step (first|(go_at_call 87;with_reducible exact calm_same (fun w=>bfloor_dn _ _ w (by omega) (by omega) (by omega) (by omega)))|(go_at_call 88;with_reducible exact calm_same (fun w=>bceil_up _ _ w (by omega) (by omega) (by omega) (by omega)))))
 refine wpQuiet_nil ?_
 intro w9 Ah
 clear Aj A3 A9 Ad A2
 have Ba:=Ah.size
 (try simp at Ba)
 have Bh:=bl5 Ah (w.heap.size)
 have As:=bl5 Ah (w.heap.size+1)
 have B3:=bl5 Ah (w2.heap.size)
 have At:=bl5 Ah (B1)
 obtain⟨Cx,Df,Do,Dy,Cz,Cy⟩:=rkb Aa Cg kpw Ah
 (try clear Cr Cw)
 repeat (first|(with_reducible refine wp_markr 13 ?_)|go_values|go_skip|go_guarded|go_step|go_upon|(simp only[];go_simp))
 refine wp_named (fun w10 A4 => ?_)
 have Au:=congrArg (fun w=>w.heap.size) A4
 (try simp at Au)
 replace Au:=Nat.le_of_eq Au.symm
 obtain⟨Dp,D7,Dg,Dq,E0,Dz⟩:=rkn Aa Cx A4 kpw
 have Bq:=cas A4 (w.heap.size) [.int .i64 A.ix,.int .i64 A.sl,.int .i64 A.sh,.int .i64 A.po,.int .i64 A.wl,.int .i64 A.wh,.slice A.pa A.ls.length A.cap,.int .i64 A.oi,.int .i64 A.ol]
 have B4:=cas A4 (w.heap.size+1) [.int .i64 0,.int .i64 0,.int .i64 0,.int .i64 0]
 have Bb:=cas A4 (w2.heap.size) [.int .i64 b.il,.int .i64 b.ih,.int .i64 b.tl,.int .i64 b.th,.int .i64 b.lo]
 have B5:=cas A4 (B1) [.int .i64 (dn (4*P0*b.tl) A.wh),.int .i64 (up (4*P1*b.th) A.wl),.int .i64 (dn 0 A.wh),.int .i64 (up 0 A.wl)]
 simp only[CAf,Nat.reduceAdd,and_true]at Bq B4 Bb B5
 clear A4
 (try clear Bh As B3 At Cy Cz)
 go_wp2_with fail
 rw[rounds_succ]
 repeat' (first|go_values|go_skip|go_guarded|go_step|go_upon|(simp only[];go_simp))
 refine bodyPost_ret (by simp[results,Tryz.results119,go_sem, *];first|done|rfl) rfl ?_
 exact⟨rfl,trw⟩
end Go.Proofs.YtnljkhlmdacfaaaGreatDoor
namespace Go.Proofs.YtnljkhlmdacfaaaGreatDoor
open Go Go.Sort Go.RowKit
theorem pos_zero:pos 0=0:=by unfold pos;rw[if_neg (by decide)]
theorem up_zero {W:Int} (h:1≤W):up 0 W=0:=by unfold up;exact Int.ediv_eq_zero_of_lt (by omega) (by omega)
theorem dn_zero (W:Int):dn 0 W=0:=by unfold dn;exact Int.zero_ediv W
theorem turP_bad {e:Int}{A:Ask}{b:Box} (k:Nat) (h:¬(norR e A b).q=0):turP k e A b=0:=by
 unfold turP
 simp only
 split<;>(split<;>first|rfl|exact pt_err _ h)
theorem turR_bad {e:Int}{A:Ask}{b:Box} (hA:AskOk A) (k:Nat) (h:¬(norR e A b).q=0):turR k e A b=0:=by
 have h0:=hA.w0
 have h1:=hA.w1
 unfold turR
 rw[turP_bad _ h,turP_bad _ h,turP_bad _ h,turP_bad _ h,pos_zero]
 split<;>simp[dn_zero,up_zero (show 1≤A.wl by omega)]
theorem r_parts (B:Nat) (e:Int) (A:Ask) (n:Int) (b:Box) (hA:AskOk A) (hM:RMed A n b) (w:World) (Aa:Rt B e A w) :
  Calls Tryz.prog 119 #[.pointer (some ⟨B,0,none⟩),A.val,.int .i64 n] w fun E w' =>
   E = .returned (.agg #[.int .i64 (turR 0 e A b),.int .i64 (turR 1 e A b),.int .i64 (turR 2 e A b),.int .i64 (turR 3 e A b)])∧Trn B (norR e A b).q w w':=by
 have NO:=r_normal B e A n b hA hM
 have hp:=hA.tur hM.ok
 have fQ:=fine_nor e A b
 have hw0:=hA.w0
 have hw1:=hA.w1
 by_cases hq:(norR e A b).q=0
 ·by_cases hl:b.lo=0
  ·cases hst:stopR e A b
   ·have h:=rtur_C B e A n b hM hp (norR e A b) _ _ NO fQ hq _ _ _ _ rfl rfl rfl rfl hl hst w Aa
    have e0:turP 0 e A b=(norR e A b).a-(norR e A b).c:=by unfold turP;simp[hst,hq,pt_zero]
    have e1:turP 1 e A b=(norR e A b).a+(norR e A b).c:=by unfold turP;simp[hst,hq,pt_zero]
    have e2:turP 2 e A b=0:=by unfold turP;simp[hst,hl]
    have e3:turP 3 e A b=0:=by unfold turP;simp[hst,hl]
    unfold turR
    simp only[e0,e1,e2,e3,pos_zero,Int.mul_zero,Int.zero_mul]
    exact h
   ·have h:=rtur_B B e A n b hM hp (norR e A b) _ _ NO fQ hq _ _ _ _ rfl rfl rfl rfl hl hst w Aa
    have e0:turP 0 e A b=0:=by unfold turP;simp[hst,hl]
    have e1:turP 1 e A b=0:=by unfold turP;simp[hst,hl]
    have e2:turP 2 e A b=(norR e A b).b-(norR e A b).c:=by unfold turP;simp[hst,hq,pt_zero]
    have e3:turP 3 e A b=(norR e A b).b+(norR e A b).c:=by unfold turP;simp[hst,hq,pt_zero]
    unfold turR
    simp only[e0,e1,e2,e3,pos_zero,Int.mul_zero,Int.zero_mul]
    exact h
  ·have h:=rtur_A B e A n b hM hp (norR e A b) _ _ NO fQ hq _ _ _ _ rfl rfl rfl rfl hl w Aa
   have e0:turP 0 e A b=(norR e A b).a-(norR e A b).c:=by unfold turP;simp[hl,hq,pt_zero]
   have e1:turP 1 e A b=(norR e A b).a+(norR e A b).c:=by unfold turP;simp[hl,hq,pt_zero]
   have e2:turP 2 e A b=(norR e A b).b-(norR e A b).c:=by unfold turP;simp[hl,hq,pt_zero]
   have e3:turP 3 e A b=(norR e A b).b+(norR e A b).c:=by unfold turP;simp[hl,hq,pt_zero]
   unfold turR
   simp only[e0,e1,e2,e3]
   exact h
 ·rw[turR_bad hA 0 hq,turR_bad hA 1 hq,turR_bad hA 2 hq,turR_bad hA 3 hq]
  exact rtur_D B e A n (norR e A b) _ _ NO hq w Aa
end Go.Proofs.YtnljkhlmdacfaaaGreatDoor
