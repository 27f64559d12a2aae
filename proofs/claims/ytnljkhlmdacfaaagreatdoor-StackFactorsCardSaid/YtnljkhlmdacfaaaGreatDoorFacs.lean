/- StackFactors: the walk. -/
import Derived.Test.YtnljkhlmdacfaaaGreatDoorFacPub
import Derived.Test.YtnljkhlmdacfaaaGreatDoorRPartsPub
import Derived.Test.YtnljkhlmdacfaaaGreatDoorRFacPub
import Derived.Test.YtnljkhlmdacfaaaGreatDoorRAsk
import Derived.Test.YtnljkhlmdacfaaaGreatDoorSame3
import Derived.Test.YtnljkhlmdacfaaaGreatDoorKStk
namespace Go.Proofs.YtnljkhlmdacfaaaGreatDoor
open Go Go.Sort Go.RowKit
theorem eq_rangeF (x y:Int) (w:World):(Op.equalIn 9999 23 (.agg #[.int .i64 x,.int .i64 y]) (.agg #[.int .i64 x,.int .i64 y])).run Tryz.prog w = .ok true w:=by simp[go_sem]
@[go_sem high] theorem run_eq_parts (a b c d:Int) (w:World):(binOp .eql 87 (.agg #[.int .i64 a,.int .i64 b,.int .i64 c,.int .i64 d]) (.agg #[.int .i64 a,.int .i64 b,.int .i64 c,.int .i64 d])).run Tryz.prog w = .ok (.bool true) w:=by
 rw[run_eql_struct]
 rw[show(10000:Nat)=9999+1 from rfl,Op.equalIn]
 simp[go_sem,Std.Legacy.Range.forIn_eq_forIn_range',Std.Legacy.Range.size,List.range',eq_rangeF,part,isAgg]
@[go_sem high] theorem run_neq_parts (a b c d:Int) (w:World):(binOp .neq 87 (.agg #[.int .i64 a,.int .i64 b,.int .i64 c,.int .i64 d]) (.agg #[.int .i64 a,.int .i64 b,.int .i64 c,.int .i64 d])).run Tryz.prog w = .ok (.bool false) w:=by
 rw[run_neq_struct]
 rw[show(10000:Nat)=9999+1 from rfl,Op.equalIn]
 simp[go_sem,Std.Legacy.Range.forIn_eq_forIn_range',Std.Legacy.Range.size,List.range',eq_rangeF,part,isAgg]
theorem rCheckAsk_to (A:Ask) (q:Int) (hq:ckQ A=q) (w:World) (hr:Row A.pa A.ls w) :
  Calls Tryz.prog 19 #[A.val] w fun e w'=>e = .returned (.tuple #[.int .i64 (ckI A),.int .i64 q])∧Below w.heap.size w w':=by
 have k:=rCheckAsk_any A w hr
 rw[hq]at k
 exact k
set_option maxRecDepth 100000 in
set_option maxHeartbeats 16000000 in
theorem facs_good (AW:Awake3) (A:Ask) (m:Int) (hp:A.pa=none→A.ls.length=0∧A.cap=0) (hq:opQ A m 1 0=0) (w:World) (hS:Std w) (hr:Row A.pa A.ls w) :
  Calls Tryz.prog 9 #[A.val,.int .i64 m] w fun e w'=>e = .returned (.bool true)∧Below w.heap.size w w':=by
 have AW:=Lib.hid AW
 have FW:=Lib.hid (fun w=>Few_any A w)
 have ST:=Lib.hid hS
 clear hS
 by_cases hn:A.ls.length≤42
 case neg =>
  have HN:=Lib.hid hn
  clear hr hp hn
  unfold Ask.val at FW ⊢
  generalize A.ls.length=len at *
  go_enter Tryz.func9,Tryz.ntmps9
  go_wp2_with fail
  refine(AW.out _ (ST.out.below blw)).mono ?_
  rintro e w1 ⟨rfl,A3⟩
  obtain⟨Af,Ad,Ab,A7,A9⟩:=bl5 A3 (w.heap.size)
  go_wp2_with fail
  refine(FW.out _).mono ?_
  rintro e w2 ⟨t,rfl,ht,A4⟩
  obtain rfl:t=false:=by cases t;· rfl
                         ·exact absurd (ht rfl) HN.out
  obtain⟨Ag,Ae,Ac,A8,Aa⟩:=bl5 A4 (w.heap.size)
  repeat' (first|go_values|go_skip|go_guarded|go_step|go_upon|(simp only[];go_simp))
  go_ret
  exact⟨rfl,blw⟩
 have CP:=Lib.hid (fun w hr=>CopyAsk_any A hp (by omega) w hr)
 obtain⟨j,b,hj,hm⟩:=layer_at hq
 have hA:=ckQ_ok (opQ_ok hq).1
 have hM:RMed A m b:=by rw[hm];exact rmed_layer A hA j b hj
 obtain⟨F,hF⟩:∃F,facR 0 A b 1=F:=⟨_,rfl⟩
 obtain⟨G,hG⟩:∃G,facR F.q A b 2=G:=⟨_,rfl⟩
 obtain⟨X,hX⟩:∃X,after G.q F=X:=⟨_,rfl⟩
 obtain⟨Y,hY⟩:∃Y,after G.q G=Y:=⟨_,rfl⟩
 obtain⟨y,hy⟩:∃y,admR 0 A b=y:=⟨_,rfl⟩
 obtain⟨g,hg⟩:∃g,facR y.q A b 2=g:=⟨_,rfl⟩
 obtain⟨⟨M,q⟩,hMq⟩:∃M,matR g.q y g=M:=⟨_,rfl⟩
 obtain⟨N,hN⟩:∃N,Mat.mk (after q M.m0) (after q M.m1) (after q M.m2) (after q M.m3)=N:=⟨_,rfl⟩
 have PA:=fun gp c w hr hg=>PartsOfLayer_to A m hq j b hj hm gp c w hr hg
 have FA:=fun gp c w hr hg'=>Factors_to A m hq j b hj hm F G X Y hF hG hX hY gp c w hr hg'
 have MA:=fun gp c w hr hg'=>MatrixOf_to A m hq j b hj hm y g M N q hy hg hMq hN gp c w hr hg'
 have RP:=fun w hr=>rPartsOfLayer_any A hA m b hM w hr
 have RF:=fun w hr=>rFactors_any A hA m b hM F G X Y hF hG hX hY w hr
 have RM:=fun w hr=>rMatrixOf_any A hA m b hM y g M N q hy hg hMq hN w hr
 have hio:=opQ_ok hq
 have WI:=fun w=>r7within_is m 1 A.ls.length true w (inR_yes.2 ⟨hio.2.1,by have:=hio.2.2;omega⟩)
 have RC:=fun w hr=>rCheckAsk_to A 0 (opQ_ok hq).1 w hr
 clear hio hA hM hF hG hX hY hy hg hMq hN hj hm hq
 generalize turR 0 0 A b=x0 at *
 generalize turR 1 0 A b=x1 at *
 generalize turR 2 0 A b=x2 at *
 generalize turR 3 0 A b=x3 at *
 generalize (norR 0 A b).q=nq at *
 generalize G.q=gq at *
 have SX:=Lib.hid (fun w=>same3_any X.a X.b X.c w)
 have SY:=Lib.hid (fun w=>same3_any Y.a Y.b Y.c w)
 obtain⟨M0,M1,M2,M3⟩:=N
 have SM0:=Lib.hid (fun w=>same3_any M0.a M0.b M0.c w)
 have SM1:=Lib.hid (fun w=>same3_any M1.a M1.b M1.c w)
 have SM2:=Lib.hid (fun w=>same3_any M2.a M2.b M2.c w)
 have SM3:=Lib.hid (fun w=>same3_any M3.a M3.b M3.c w)
 unfold Mat.cells at MA
 unfold Mat.ints at RM
 dsimp only at MA RM
 generalize ckI A=I at *
 have HR:=Lib.hid hr
 clear hr hp hn
 unfold Ask.mv at CP PA FA MA
 unfold Ask.val at CP FW PA FA MA RC RP RF RM ⊢
 generalize A.ls.length=len at *
 have PA:=Lib.hid PA
 have FA:=Lib.hid FA
 have MA:=Lib.hid MA
 have RC:=Lib.hid RC
 have RP:=Lib.hid RP
 have RF:=Lib.hid RF
 have RM:=Lib.hid RM
 have WI:=Lib.hid WI
 go_enter Tryz.func9,Tryz.ntmps9
 go_wp2_with fail
 refine(AW.out _ (ST.out.below blw)).mono ?_
 rintro e w1 ⟨rfl,A3⟩
 clear AW ST
 obtain⟨Af,Ad,Ab,A7,A9⟩:=bl5 A3 (w.heap.size)
 go_wp2_with fail
 refine(FW.out _).mono ?_
 rintro e w2 ⟨t,rfl,ht,A4⟩
 clear ht
 obtain⟨Ag,Ae,Ac,A8,Aa⟩:=bl5 A4 (w.heap.size)
 cases t
 ·repeat' (first|go_values|go_skip|go_guarded|go_step|go_upon|(simp only[];go_simp))
  go_ret
  exact⟨rfl,blw⟩
 go_wp2_with fail
 refine(CP.out _ (HR.out.bel blw)).mono ?_
 rintro e w3 ⟨g3,c3,rfl,hr3,hl3,hh3,Bf⟩
 obtain⟨Di,Db,D4,Cq,Cx⟩:=bl5 Bf (w.heap.size)
 go_wp2_with fail
 refine(PA.out g3 c3 _ hr3 hh3).mono ?_
 rintro e w4 ⟨rfl,Bg⟩
 clear hr3
 obtain⟨Dj,Dc,D5,Cr,Cy⟩:=bl5 Bg (w.heap.size)
 go_wp2_with fail
 refine(CP.out _ (HR.out.bel blw)).mono ?_
 rintro e w5 ⟨g5,c5,rfl,hr5,hl5,hh5,Ah⟩
 obtain⟨Dk,Dd,D6,Cs,Cz⟩:=bl5 Ah (w.heap.size)
 obtain⟨Ch,C8,Bz,Bh,Bq⟩:=bl5 Ah (w4.heap.size)
 go_wp2_with fail
 refine(FA.out g5 c5 _ hr5 hh5).mono ?_
 rintro e w6 ⟨rfl,Ai⟩
 clear hr5
 obtain⟨Dl,De,D7,Ct,D0⟩:=bl5 Ai (w.heap.size)
 obtain⟨Ci,C9,C0,Bi,Br⟩:=bl5 Ai (w4.heap.size)
 go_wp2_with fail
 refine(CP.out _ (HR.out.bel blw)).mono ?_
 rintro e w7 ⟨g7,c7,rfl,hr7,hl7,hh7,A5⟩
 obtain⟨Dm,Df,D8,Cu,D1⟩:=bl5 A5 (w.heap.size)
 obtain⟨Cj,Ca,C1,Bj,Bs⟩:=bl5 A5 (w4.heap.size)
 obtain⟨Ck,Cb,C2,Bk,Bt⟩:=bl5 A5 (w6.heap.size)
 go_wp2_with fail
 refine(MA.out g7 c7 _ hr7 hh7).mono ?_
 rintro e w8 ⟨rfl,A6⟩
 clear hr7
 obtain⟨Dn,Dg,D9,Cv,D2⟩:=bl5 A6 (w.heap.size)
 obtain⟨Cl,Cc,C3,Bl,Bu⟩:=bl5 A6 (w4.heap.size)
 obtain⟨Cm,Cd,C4,Bm,Bv⟩:=bl5 A6 (w6.heap.size)
 go_wp2_with fail
 refine(RC.out _ (HR.out.bel blw)).mono ?_
 rintro e w9 ⟨rfl,A2⟩
 clear CP PA FA MA RC
 obtain⟨Do,Dh,Da,Cw,D3⟩:=bl5 A2 (w.heap.size)
 obtain⟨Cn,Ce,C5,Bn,Bw⟩:=bl5 A2 (w4.heap.size)
 obtain⟨Co,Cf,C6,Bo,Bx⟩:=bl5 A2 (w6.heap.size)
 obtain⟨Cp,Cg,C7,Bp,By⟩:=bl5 A2 (w8.heap.size)
 go_wp2_with fail
 refine(WI.out _).mono ?_
 rintro e w10 ⟨rfl,hw10⟩
 rw[hw10];clear hw10 w10
 go_wp2_with fail
 refine(RP.out _ (HR.out.bel blw)).mono ?_
 rintro e w11 ⟨rfl,A1⟩
 obtain⟨Gq,Gn,Gl,Gh,Gj⟩:=bl5 A1 (w.heap.size)
 obtain⟨B8,B2,Aw,Ak,Aq⟩:=bl5 A1 (w4.heap.size)
 obtain⟨B9,B3,Ax,Al,Ar⟩:=bl5 A1 (w6.heap.size)
 obtain⟨Ba,B4,Ay,Am,As⟩:=bl5 A1 (w8.heap.size)
 go_wp2_with fail
 refine(RF.out _ (HR.out.bel blw)).mono ?_
 rintro e w12 ⟨rfl,A0⟩
 obtain⟨Gr,Gp,Gm,Gi,Gk⟩:=bl5 A0 (w.heap.size)
 obtain⟨Bb,B5,Az,An,At⟩:=bl5 A0 (w4.heap.size)
 obtain⟨Bc,B6,B0,Ao,Au⟩:=bl5 A0 (w6.heap.size)
 obtain⟨Bd,B7,B1,Ap,Av⟩:=bl5 A0 (w8.heap.size)
 obtain⟨Eu,El,Ec,Du,E3⟩:=bl5 A0 (w11.heap.size)
 go_wp2_with fail
 refine(RM.out _ (HR.out.bel blw)).mono ?_
 rintro e w13 ⟨rfl,Aj⟩
 obtain⟨G7,Fx,Fn,F3,Fd⟩:=bl5 Aj (w4.heap.size)
 obtain⟨G8,Fy,Fo,F4,Fe⟩:=bl5 Aj (w6.heap.size)
 obtain⟨G9,Fz,Fp,F5,Ff⟩:=bl5 Aj (w8.heap.size)
 obtain⟨Ev,Em,Ed,Dv,E4⟩:=bl5 Aj (w11.heap.size)
 obtain⟨Ew,En,Ee,Dw,E5⟩:=bl5 Aj (w12.heap.size)
 go_wp2_with fail
 refine(SX.out _).mono ?_
 rintro e w14 ⟨rfl,Be⟩
 obtain⟨Ga,G0,Fq,F6,Fg⟩:=bl5 Be (w6.heap.size)
 obtain⟨Gb,G1,Fr,F7,Fh⟩:=bl5 Be (w8.heap.size)
 obtain⟨Ex,Eo,Ef,Dx,E6⟩:=bl5 Be (w12.heap.size)
 obtain⟨Ey,Ep,Eg,Dy,E7⟩:=bl5 Be (w13.heap.size)
 go_wp2_with fail
 refine(SY.out _).mono ?_
 rintro e w15 ⟨rfl,Dp⟩
 obtain⟨Gc,G2,Fs,F8,Fi⟩:=bl5 Dp (w8.heap.size)
 obtain⟨Ez,Eq,Eh,Dz,E8⟩:=bl5 Dp (w13.heap.size)
 go_wp2_with fail
 refine(SM0.out _).mono ?_
 rintro e w16 ⟨rfl,Dq⟩
 obtain⟨Gd,G3,Ft,F9,Fj⟩:=bl5 Dq (w8.heap.size)
 obtain⟨F0,Er,Ei,E0,E9⟩:=bl5 Dq (w13.heap.size)
 go_wp2_with fail
 refine(SM1.out _).mono ?_
 rintro e w17 ⟨rfl,Dr⟩
 obtain⟨Ge,G4,Fu,Fa,Fk⟩:=bl5 Dr (w8.heap.size)
 obtain⟨F1,Es,Ej,E1,Ea⟩:=bl5 Dr (w13.heap.size)
 go_wp2_with fail
 refine(SM2.out _).mono ?_
 rintro e w18 ⟨rfl,Ds⟩
 obtain⟨Gf,G5,Fv,Fb,Fl⟩:=bl5 Ds (w8.heap.size)
 obtain⟨F2,Et,Ek,E2,Eb⟩:=bl5 Ds (w13.heap.size)
 go_wp2_with fail
 refine(SM3.out _).mono ?_
 rintro e w19 ⟨rfl,Dt⟩
 obtain⟨Gg,G6,Fw,Fc,Fm⟩:=bl5 Dt (w8.heap.size)
 repeat' (first|go_values|go_skip|go_guarded|go_step|go_upon|(simp only[];go_simp))
 go_ret
 exact⟨rfl,blw⟩
set_option maxRecDepth 100000 in
set_option maxHeartbeats 16000000 in
theorem facs_ask (AW:Awake3) (A:Ask) (m:Int) (hp:A.pa=none→A.ls.length=0∧A.cap=0) (hc:¬ckQ A=0) (w:World) (hS:Std w) (hr:Row A.pa A.ls w) :
  Calls Tryz.prog 9 #[A.val,.int .i64 m] w fun e w'=>e = .returned (.bool true)∧Below w.heap.size w w':=by
 have AW:=Lib.hid AW
 have FW:=Lib.hid (fun w=>Few_any A w)
 have ST:=Lib.hid hS
 clear hS
 by_cases hn:A.ls.length≤42
 case neg =>
  have HN:=Lib.hid hn
  clear hr hp hn
  unfold Ask.val at FW ⊢
  generalize A.ls.length=len at *
  go_enter Tryz.func9,Tryz.ntmps9
  go_wp2_with fail
  refine(AW.out _ (ST.out.below blw)).mono ?_
  rintro e w1 ⟨rfl,A3⟩
  obtain⟨Af,Ad,Ab,A7,A9⟩:=bl5 A3 (w.heap.size)
  go_wp2_with fail
  refine(FW.out _).mono ?_
  rintro e w2 ⟨t,rfl,ht,A4⟩
  obtain rfl:t=false:=by cases t;· rfl
                         ·exact absurd (ht rfl) HN.out
  obtain⟨Ag,Ae,Ac,A8,Aa⟩:=bl5 A4 (w.heap.size)
  repeat' (first|go_values|go_skip|go_guarded|go_step|go_upon|(simp only[];go_simp))
  go_ret
  exact⟨rfl,blw⟩
 have CP:=Lib.hid (fun w hr=>CopyAsk_any A hp (by omega) w hr)
 obtain⟨Q,eQ⟩:∃Q,ckQ A=Q:=⟨_,rfl⟩
 have e6:opQ A m 1 0=Q:=(opQ_ask hc).trans eQ
 have hQ:¬Q=0:=by rw[← eQ];exact hc
 have PA:=fun gp c w hr hg=>PartsOfLayer_no A m Q e6 hQ gp c w hr hg
 have FA:=fun gp c w hr hg=>Factors_no A m Q e6 hQ gp c w hr hg
 have MA:=fun gp c w hr hg=>MatrixOf_no A m Q e6 hQ gp c w hr hg
 have RC:=fun w hr=>rCheckAsk_to A Q eQ w hr
 have hQ1:(Q==0)=false:=by simpa using hQ
 have hQ2:(Q != 0)=true:=by simpa using hQ
 clear hc eQ e6 hQ
 generalize ckI A=I at *
 have HR:=Lib.hid hr
 clear hr hp hn
 unfold Ask.mv at CP PA FA MA
 unfold Ask.val at CP FW PA FA MA RC ⊢
 generalize A.ls.length=len at *
 have PA:=Lib.hid PA
 have FA:=Lib.hid FA
 have MA:=Lib.hid MA
 have RC:=Lib.hid RC
 have NB:=Lib.hid (fun n hn g cap w h=>none3_any g n cap hn w h)
 go_enter Tryz.func9,Tryz.ntmps9
 go_wp2_with fail
 refine(AW.out _ (ST.out.below blw)).mono ?_
 rintro e w1 ⟨rfl,A3⟩
 clear AW ST
 obtain⟨Af,Ad,Ab,A7,A9⟩:=bl5 A3 (w.heap.size)
 go_wp2_with fail
 refine(FW.out _).mono ?_
 rintro e w2 ⟨t,rfl,ht,A4⟩
 clear ht
 obtain⟨Ag,Ae,Ac,A8,Aa⟩:=bl5 A4 (w.heap.size)
 cases t
 ·repeat' (first|go_values|go_skip|go_guarded|go_step|go_upon|(simp only[];go_simp))
  go_ret
  exact⟨rfl,blw⟩
 go_wp2_with fail
 refine(CP.out _ (HR.out.bel blw)).mono ?_
 rintro e w3 ⟨g3,c3,rfl,hr3,hl3,hh3,Bf⟩
 obtain⟨Di,Db,D4,Cq,Cx⟩:=bl5 Bf (w.heap.size)
 go_wp2_with fail
 refine(PA.out g3 c3 _ hr3 hh3).mono ?_
 rintro e w4 ⟨rfl,Bg⟩
 clear hr3
 obtain⟨Dj,Dc,D5,Cr,Cy⟩:=bl5 Bg (w.heap.size)
 go_wp2_with fail
 refine(CP.out _ (HR.out.bel blw)).mono ?_
 rintro e w5 ⟨g5,c5,rfl,hr5,hl5,hh5,Ah⟩
 obtain⟨Dk,Dd,D6,Cs,Cz⟩:=bl5 Ah (w.heap.size)
 obtain⟨Ch,C8,Bz,Bh,Bq⟩:=bl5 Ah (w4.heap.size)
 go_wp2_with fail
 refine(FA.out g5 c5 _ hr5 hh5).mono ?_
 rintro e w6 ⟨rfl,Ai⟩
 clear hr5
 obtain⟨Dl,De,D7,Ct,D0⟩:=bl5 Ai (w.heap.size)
 obtain⟨Ci,C9,C0,Bi,Br⟩:=bl5 Ai (w4.heap.size)
 go_wp2_with fail
 refine(CP.out _ (HR.out.bel blw)).mono ?_
 rintro e w7 ⟨g7,c7,rfl,hr7,hl7,hh7,A5⟩
 obtain⟨Dm,Df,D8,Cu,D1⟩:=bl5 A5 (w.heap.size)
 obtain⟨Cj,Ca,C1,Bj,Bs⟩:=bl5 A5 (w4.heap.size)
 obtain⟨Ck,Cb,C2,Bk,Bt⟩:=bl5 A5 (w6.heap.size)
 go_wp2_with fail
 refine(MA.out g7 c7 _ hr7 hh7).mono ?_
 rintro e w8 ⟨rfl,A6⟩
 clear hr7
 obtain⟨Dn,Dg,D9,Cv,D2⟩:=bl5 A6 (w.heap.size)
 obtain⟨Cl,Cc,C3,Bl,Bu⟩:=bl5 A6 (w4.heap.size)
 obtain⟨Cm,Cd,C4,Bm,Bv⟩:=bl5 A6 (w6.heap.size)
 go_wp2_with fail
 refine(RC.out _ (HR.out.bel blw)).mono ?_
 rintro e w9 ⟨rfl,A2⟩
 clear CP PA FA MA RC
 obtain⟨Do,Dh,Da,Cw,D3⟩:=bl5 A2 (w.heap.size)
 obtain⟨Cn,Ce,C5,Bn,Bw⟩:=bl5 A2 (w4.heap.size)
 obtain⟨Co,Cf,C6,Bo,Bx⟩:=bl5 A2 (w6.heap.size)
 obtain⟨Cp,Cg,C7,Bp,By⟩:=bl5 A2 (w8.heap.size)
 go_wp2_with fail
 refine(NB.out 2 (by decide) _ _ _ ⟨by simp,fun k hk=>by match k,hk with|0,_=>go_simp|1,_=>go_simp,fun k hk=>by match k,hk with|0,_=>go_simp|1,_=>go_simp⟩).mono ?_
 rintro e w11 ⟨rfl,A1⟩
 obtain⟨B8,B2,Aw,Ak,Aq⟩:=bl5 A1 (w4.heap.size)
 obtain⟨B9,B3,Ax,Al,Ar⟩:=bl5 A1 (w6.heap.size)
 obtain⟨Ba,B4,Ay,Am,As⟩:=bl5 A1 (w8.heap.size)
 go_wp2_with fail
 refine(NB.out 4 (by decide) _ _ _ ⟨by simp,fun k hk=>by match k,hk with|0,_=>go_simp|1,_=>go_simp|2,_=>go_simp|3,_=>go_simp,fun k hk=>by match k,hk with|0,_=>go_simp|1,_=>go_simp|2,_=>go_simp|3,_=>go_simp⟩).mono ?_
 rintro e w12 ⟨rfl,A0⟩
 obtain⟨Bb,B5,Az,An,At⟩:=bl5 A0 (w4.heap.size)
 obtain⟨Bc,B6,B0,Ao,Au⟩:=bl5 A0 (w6.heap.size)
 obtain⟨Bd,B7,B1,Ap,Av⟩:=bl5 A0 (w8.heap.size)
 repeat' (first|go_values|go_skip|go_guarded|go_step|go_upon|(simp only[];go_simp))
 go_ret
 exact⟨rfl,blw⟩
set_option maxRecDepth 100000 in
set_option maxHeartbeats 16000000 in
theorem facs_num (AW:Awake3) (A:Ask) (m:Int) (hp:A.pa=none→A.ls.length=0∧A.cap=0) (hc:ckQ A=0) (hin:inR m 1 A.ls.length=false) (w:World) (hS:Std w) (hr:Row A.pa A.ls w) :
  Calls Tryz.prog 9 #[A.val,.int .i64 m] w fun e w'=>e = .returned (.bool true)∧Below w.heap.size w w':=by
 have AW:=Lib.hid AW
 have FW:=Lib.hid (fun w=>Few_any A w)
 have ST:=Lib.hid hS
 clear hS
 by_cases hn:A.ls.length≤42
 case neg =>
  have HN:=Lib.hid hn
  clear hr hp hn
  unfold Ask.val at FW ⊢
  generalize A.ls.length=len at *
  go_enter Tryz.func9,Tryz.ntmps9
  go_wp2_with fail
  refine(AW.out _ (ST.out.below blw)).mono ?_
  rintro e w1 ⟨rfl,A3⟩
  obtain⟨Af,Ad,Ab,A7,A9⟩:=bl5 A3 (w.heap.size)
  go_wp2_with fail
  refine(FW.out _).mono ?_
  rintro e w2 ⟨t,rfl,ht,A4⟩
  obtain rfl:t=false:=by cases t;· rfl
                         ·exact absurd (ht rfl) HN.out
  obtain⟨Ag,Ae,Ac,A8,Aa⟩:=bl5 A4 (w.heap.size)
  repeat' (first|go_values|go_skip|go_guarded|go_step|go_upon|(simp only[];go_simp))
  go_ret
  exact⟨rfl,blw⟩
 have CP:=Lib.hid (fun w hr=>CopyAsk_any A hp (by omega) w hr)
 obtain⟨Q,eQ⟩:∃Q:Int,6=Q:=⟨_,rfl⟩
 have e6:opQ A m 1 0=Q:=by rw[← eQ];exact opQ_out hc (by rw[Int.add_zero];exact hin)
 have hQ:¬Q=0:=by rw[← eQ];decide
 have WI:=Lib.hid (fun w=>r7within_is m 1 A.ls.length false w hin)
 have PA:=fun gp c w hr hg=>PartsOfLayer_no A m Q e6 hQ gp c w hr hg
 have FA:=fun gp c w hr hg=>Factors_no A m Q e6 hQ gp c w hr hg
 have MA:=fun gp c w hr hg=>MatrixOf_no A m Q e6 hQ gp c w hr hg
 have RC:=fun w hr=>rCheckAsk_to A 0 hc w hr
 have hQ1:(Q==0)=false:=by simpa using hQ
 have hQ2:(Q != 0)=true:=by simpa using hQ
 subst eQ
 clear hc hin e6 hQ
 generalize ckI A=I at *
 have HR:=Lib.hid hr
 clear hr hp hn
 unfold Ask.mv at CP PA FA MA
 unfold Ask.val at CP FW PA FA MA RC ⊢
 generalize A.ls.length=len at *
 have PA:=Lib.hid PA
 have FA:=Lib.hid FA
 have MA:=Lib.hid MA
 have RC:=Lib.hid RC
 have NB:=Lib.hid (fun n hn g cap w h=>none3_any g n cap hn w h)
 go_enter Tryz.func9,Tryz.ntmps9
 go_wp2_with fail
 refine(AW.out _ (ST.out.below blw)).mono ?_
 rintro e w1 ⟨rfl,A3⟩
 clear AW ST
 obtain⟨Af,Ad,Ab,A7,A9⟩:=bl5 A3 (w.heap.size)
 go_wp2_with fail
 refine(FW.out _).mono ?_
 rintro e w2 ⟨t,rfl,ht,A4⟩
 clear ht
 obtain⟨Ag,Ae,Ac,A8,Aa⟩:=bl5 A4 (w.heap.size)
 cases t
 ·repeat' (first|go_values|go_skip|go_guarded|go_step|go_upon|(simp only[];go_simp))
  go_ret
  exact⟨rfl,blw⟩
 go_wp2_with fail
 refine(CP.out _ (HR.out.bel blw)).mono ?_
 rintro e w3 ⟨g3,c3,rfl,hr3,hl3,hh3,Bf⟩
 obtain⟨Di,Db,D4,Cq,Cx⟩:=bl5 Bf (w.heap.size)
 go_wp2_with fail
 refine(PA.out g3 c3 _ hr3 hh3).mono ?_
 rintro e w4 ⟨rfl,Bg⟩
 clear hr3
 obtain⟨Dj,Dc,D5,Cr,Cy⟩:=bl5 Bg (w.heap.size)
 go_wp2_with fail
 refine(CP.out _ (HR.out.bel blw)).mono ?_
 rintro e w5 ⟨g5,c5,rfl,hr5,hl5,hh5,Ah⟩
 obtain⟨Dk,Dd,D6,Cs,Cz⟩:=bl5 Ah (w.heap.size)
 obtain⟨Ch,C8,Bz,Bh,Bq⟩:=bl5 Ah (w4.heap.size)
 go_wp2_with fail
 refine(FA.out g5 c5 _ hr5 hh5).mono ?_
 rintro e w6 ⟨rfl,Ai⟩
 clear hr5
 obtain⟨Dl,De,D7,Ct,D0⟩:=bl5 Ai (w.heap.size)
 obtain⟨Ci,C9,C0,Bi,Br⟩:=bl5 Ai (w4.heap.size)
 go_wp2_with fail
 refine(CP.out _ (HR.out.bel blw)).mono ?_
 rintro e w7 ⟨g7,c7,rfl,hr7,hl7,hh7,A5⟩
 obtain⟨Dm,Df,D8,Cu,D1⟩:=bl5 A5 (w.heap.size)
 obtain⟨Cj,Ca,C1,Bj,Bs⟩:=bl5 A5 (w4.heap.size)
 obtain⟨Ck,Cb,C2,Bk,Bt⟩:=bl5 A5 (w6.heap.size)
 go_wp2_with fail
 refine(MA.out g7 c7 _ hr7 hh7).mono ?_
 rintro e w8 ⟨rfl,A6⟩
 clear hr7
 obtain⟨Dn,Dg,D9,Cv,D2⟩:=bl5 A6 (w.heap.size)
 obtain⟨Cl,Cc,C3,Bl,Bu⟩:=bl5 A6 (w4.heap.size)
 obtain⟨Cm,Cd,C4,Bm,Bv⟩:=bl5 A6 (w6.heap.size)
 go_wp2_with fail
 refine(RC.out _ (HR.out.bel blw)).mono ?_
 rintro e w9 ⟨rfl,A2⟩
 clear CP PA FA MA RC
 obtain⟨Do,Dh,Da,Cw,D3⟩:=bl5 A2 (w.heap.size)
 obtain⟨Cn,Ce,C5,Bn,Bw⟩:=bl5 A2 (w4.heap.size)
 obtain⟨Co,Cf,C6,Bo,Bx⟩:=bl5 A2 (w6.heap.size)
 obtain⟨Cp,Cg,C7,Bp,By⟩:=bl5 A2 (w8.heap.size)
 go_wp2_with fail
 refine(WI.out _).mono ?_
 rintro e w10 ⟨rfl,hw10⟩
 rw[hw10];clear hw10 w10
 go_wp2_with fail
 refine(NB.out 2 (by decide) _ _ _ ⟨by simp,fun k hk=>by match k,hk with|0,_=>go_simp|1,_=>go_simp,fun k hk=>by match k,hk with|0,_=>go_simp|1,_=>go_simp⟩).mono ?_
 rintro e w11 ⟨rfl,A1⟩
 obtain⟨B8,B2,Aw,Ak,Aq⟩:=bl5 A1 (w4.heap.size)
 obtain⟨B9,B3,Ax,Al,Ar⟩:=bl5 A1 (w6.heap.size)
 obtain⟨Ba,B4,Ay,Am,As⟩:=bl5 A1 (w8.heap.size)
 go_wp2_with fail
 refine(NB.out 4 (by decide) _ _ _ ⟨by simp,fun k hk=>by match k,hk with|0,_=>go_simp|1,_=>go_simp|2,_=>go_simp|3,_=>go_simp,fun k hk=>by match k,hk with|0,_=>go_simp|1,_=>go_simp|2,_=>go_simp|3,_=>go_simp⟩).mono ?_
 rintro e w12 ⟨rfl,A0⟩
 obtain⟨Bb,B5,Az,An,At⟩:=bl5 A0 (w4.heap.size)
 obtain⟨Bc,B6,B0,Ao,Au⟩:=bl5 A0 (w6.heap.size)
 obtain⟨Bd,B7,B1,Ap,Av⟩:=bl5 A0 (w8.heap.size)
 repeat' (first|go_values|go_skip|go_guarded|go_step|go_upon|(simp only[];go_simp))
 go_ret
 exact⟨rfl,blw⟩
theorem facs_any (AW:Awake3) (A:Ask) (m:Int) (hp:A.pa=none→A.ls.length=0∧A.cap=0) (w:World) (hS:Std w) (hr:Row A.pa A.ls w) :
  Calls Tryz.prog 9 #[A.val,.int .i64 m] w fun e w'=>e = .returned (.bool true)∧Below w.heap.size w w':=by
 by_cases hc:ckQ A=0
 ·cases hin:inR m 1 A.ls.length
  ·exact facs_num AW A m hp hc hin w hS hr
  ·exact facs_good AW A m hp (opQ_in hc (by rw[Int.add_zero];exact hin)) w hS hr
 ·exact facs_ask AW A m hp hc w hS hr
end Go.Proofs.YtnljkhlmdacfaaaGreatDoor
