/- StackAmplitudes: the walk. -/
import Derived.Test.YtnljkhlmdacfaaaGreatDoorKAp
import Derived.Test.YtnljkhlmdacfaaaGreatDoorRAmp
import Derived.Test.YtnljkhlmdacfaaaGreatDoorKRy
import Derived.Test.YtnljkhlmdacfaaaGreatDoorRAsk
import Derived.Test.YtnljkhlmdacfaaaGreatDoorSame3
import Derived.Test.YtnljkhlmdacfaaaGreatDoorKStk
namespace Go.Proofs.YtnljkhlmdacfaaaGreatDoor
open Go Go.Sort Go.RowKit
theorem rCheckAsk_to (A:Ask) (q:Int) (hq:ckQ A=q) (w:World) (hr:Row A.pa A.ls w) :
  Calls Tryz.prog 19 #[A.val] w fun e w'=>e = .returned (.tuple #[.int .i64 (ckI A),.int .i64 q])∧Below w.heap.size w w':=by
 have k:=rCheckAsk_any A w hr
 rw[hq]at k
 exact k
set_option maxRecDepth 100000 in
set_option maxHeartbeats 16000000 in
theorem amps_good (AW:Awake3) (A:Ask) (hp:A.pa=none→A.ls.length=0∧A.cap=0) (hc:ckQ A=0) (w:World) (hS:Std w) (hr:Row A.pa A.ls w) :
  Calls Tryz.prog 6 #[A.val] w fun e w'=>e = .returned (.bool true)∧Below w.heap.size w w':=by
 have AW:=Lib.hid AW
 have FW:=Lib.hid (fun w=>Few_any A w)
 have ST:=Lib.hid hS
 clear hS
 by_cases hn:A.ls.length≤42
 case neg =>
  have HN:=Lib.hid hn
  clear hr hp hn
  unfold Ask.val at FW ⊢
  generalize A.ls.length=len at *
  go_enter Tryz.func6,Tryz.ntmps6
  go_wp2_with fail
  refine(AW.out _ (ST.out.below blw)).mono ?_
  rintro e w1 ⟨rfl,A5⟩
  obtain⟨Ak,Ai,Ag,Ac,Ae⟩:=bl5 A5 (w.heap.size)
  go_wp2_with fail
  refine(FW.out _).mono ?_
  rintro e w2 ⟨t,rfl,ht,A8⟩
  obtain rfl:t=false:=by cases t;· rfl
                         ·exact absurd (ht rfl) HN.out
  obtain⟨Al,Aj,Ah,Ad,Af⟩:=bl5 A8 (w.heap.size)
  repeat' (first|go_values|go_skip|go_guarded|go_step|go_upon|(simp only[];go_simp))
  go_ret
  exact⟨rfl,blw⟩
 have CP:=Lib.hid (fun w hr=>CopyAsk_any A hp (by omega) w hr)
 have hA:=ckQ_ok hc
 obtain⟨T,hT⟩:∃T,thrR 0 A false=T:=⟨_,rfl⟩
 obtain⟨N,hN⟩:∃N,Mat.mk (after T.q T.p.m0) (after T.q T.p.m1) (after T.q T.p.m2) (after T.q T.p.m3)=N:=⟨_,rfl⟩
 obtain⟨Y,hY⟩:∃Y,ampR A false=Y:=⟨_,rfl⟩
 obtain⟨Z,hZ⟩:∃Z,ampR A true=Z:=⟨_,rfl⟩
 have PR:=fun gp c w hr hg=>Product_to A hA T N hT hN gp c w hr hg
 have RE:=fun gp c w hr hg=>Reflected_to A hA Y hY gp c w hr hg
 have TR:=fun gp c w hr hg=>Transmitted_to A hA Z hZ gp c w hr hg
 have RP:=fun w hr=>rProduct_any A hA T N hT hN w hr
 have RF:=fun w hr=>rReflected_any A hA w hr
 have RT:=fun w hr=>rTransmitted_any A hA w hr
 rw[hY]at RF
 rw[hZ]at RT
 have RC:=fun w hr=>rCheckAsk_to A 0 hc w hr
 clear hA hT hN hY hZ hc
 generalize T.q=tq at *
 have SY:=Lib.hid (fun w=>same3_any Y.a Y.b Y.c w)
 have SZ:=Lib.hid (fun w=>same3_any Z.a Z.b Z.c w)
 obtain⟨M0,M1,M2,M3⟩:=N
 have SM0:=Lib.hid (fun w=>same3_any M0.a M0.b M0.c w)
 have SM1:=Lib.hid (fun w=>same3_any M1.a M1.b M1.c w)
 have SM2:=Lib.hid (fun w=>same3_any M2.a M2.b M2.c w)
 have SM3:=Lib.hid (fun w=>same3_any M3.a M3.b M3.c w)
 unfold Mat.cells at PR
 unfold Mat.ints at RP
 dsimp only at PR RP
 generalize ckI A=I at *
 have HR:=Lib.hid hr
 clear hr hp hn
 unfold Ask.mv at CP PR RE TR
 unfold Ask.val at CP FW PR RE TR RC RP RF RT ⊢
 generalize A.ls.length=len at *
 have PR:=Lib.hid PR
 have RE:=Lib.hid RE
 have TR:=Lib.hid TR
 have RC:=Lib.hid RC
 have RP:=Lib.hid RP
 have RF:=Lib.hid RF
 have RT:=Lib.hid RT
 go_enter Tryz.func6,Tryz.ntmps6
 go_wp2_with fail
 refine(AW.out _ (ST.out.below blw)).mono ?_
 rintro e w1 ⟨rfl,A5⟩
 clear AW ST
 obtain⟨Ak,Ai,Ag,Ac,Ae⟩:=bl5 A5 (w.heap.size)
 go_wp2_with fail
 refine(FW.out _).mono ?_
 rintro e w2 ⟨t,rfl,ht,A8⟩
 clear ht
 obtain⟨Al,Aj,Ah,Ad,Af⟩:=bl5 A8 (w.heap.size)
 cases t
 ·repeat' (first|go_values|go_skip|go_guarded|go_step|go_upon|(simp only[];go_simp))
  go_ret
  exact⟨rfl,blw⟩
 go_wp2_with fail
 refine(CP.out _ (HR.out.bel blw)).mono ?_
 rintro e w3 ⟨g3,c3,rfl,hr3,hl3,hh3,B4⟩
 obtain⟨D7,D0,Ct,Cf,Cm⟩:=bl5 B4 (w.heap.size)
 go_wp2_with fail
 refine(PR.out g3 c3 _ hr3 hh3).mono ?_
 rintro e w4 ⟨rfl,B5⟩
 clear hr3
 obtain⟨D8,D1,Cu,Cg,Cn⟩:=bl5 B5 (w.heap.size)
 go_wp2_with fail
 refine(CP.out _ (HR.out.bel blw)).mono ?_
 rintro e w5 ⟨g5,c5,rfl,hr5,hl5,hh5,Am⟩
 obtain⟨D9,D2,Cv,Ch,Co⟩:=bl5 Am (w.heap.size)
 obtain⟨C6,Bx,Bo,B6,Bf⟩:=bl5 Am (w4.heap.size)
 go_wp2_with fail
 refine(RE.out g5 c5 _ hr5 hh5).mono ?_
 rintro e w6 ⟨rfl,An⟩
 clear hr5
 obtain⟨Da,D3,Cw,Ci,Cp⟩:=bl5 An (w.heap.size)
 obtain⟨C7,By,Bp,B7,Bg⟩:=bl5 An (w4.heap.size)
 go_wp2_with fail
 refine(CP.out _ (HR.out.bel blw)).mono ?_
 rintro e w7 ⟨g7,c7,rfl,hr7,hl7,hh7,A9⟩
 obtain⟨Db,D4,Cx,Cj,Cq⟩:=bl5 A9 (w.heap.size)
 obtain⟨C8,Bz,Bq,B8,Bh⟩:=bl5 A9 (w4.heap.size)
 obtain⟨C9,C0,Br,B9,Bi⟩:=bl5 A9 (w6.heap.size)
 go_wp2_with fail
 refine(TR.out g7 c7 _ hr7 hh7).mono ?_
 rintro e w8 ⟨rfl,Aa⟩
 clear hr7
 obtain⟨Dc,D5,Cy,Ck,Cr⟩:=bl5 Aa (w.heap.size)
 obtain⟨Ca,C1,Bs,Ba,Bj⟩:=bl5 Aa (w4.heap.size)
 obtain⟨Cb,C2,Bt,Bb,Bk⟩:=bl5 Aa (w6.heap.size)
 go_wp2_with fail
 refine(RC.out _ (HR.out.bel blw)).mono ?_
 rintro e w9 ⟨rfl,A1⟩
 clear CP PR RE TR RC
 obtain⟨Dd,D6,Cz,Cl,Cs⟩:=bl5 A1 (w.heap.size)
 obtain⟨Cc,C3,Bu,Bc,Bl⟩:=bl5 A1 (w4.heap.size)
 obtain⟨Cd,C4,Bv,Bd,Bm⟩:=bl5 A1 (w6.heap.size)
 obtain⟨Ce,C5,Bw,Be,Bn⟩:=bl5 A1 (w8.heap.size)
 go_wp2_with fail
 refine(RP.out _ (HR.out.bel blw)).mono ?_
 rintro e w11 ⟨rfl,A0⟩
 obtain⟨Ie,Ic,Ia,I6,I8⟩:=bl5 A0 (w.heap.size)
 obtain⟨B0,Ax,Au,Ao,Ar⟩:=bl5 A0 (w4.heap.size)
 obtain⟨B1,Ay,Av,Ap,As⟩:=bl5 A0 (w6.heap.size)
 obtain⟨B2,Az,Aw,Aq,At⟩:=bl5 A0 (w8.heap.size)
 go_wp2_with fail
 refine(RF.out _ (HR.out.bel blw)).mono ?_
 rintro e w12 ⟨rfl,A6⟩
 obtain⟨If,Id,Ib,I7,I9⟩:=bl5 A6 (w.heap.size)
 obtain⟨Hn,H4,Gk,Fi,G1⟩:=bl5 A6 (w4.heap.size)
 obtain⟨Ho,H5,Gl,Fj,G2⟩:=bl5 A6 (w6.heap.size)
 obtain⟨Hp,H6,Gm,Fk,G3⟩:=bl5 A6 (w8.heap.size)
 obtain⟨F3,Eo,E9,Df,Du⟩:=bl5 A6 (w11.heap.size)
 go_wp2_with fail
 refine(RT.out _ (HR.out.bel blw)).mono ?_
 rintro e w13 ⟨rfl,A7⟩
 obtain⟨Hq,H7,Gn,Fl,G4⟩:=bl5 A7 (w4.heap.size)
 obtain⟨Hr,H8,Gp,Fm,G5⟩:=bl5 A7 (w6.heap.size)
 obtain⟨Hs,H9,Gq,Fn,G6⟩:=bl5 A7 (w8.heap.size)
 obtain⟨F4,Ep,Ea,Dg,Dv⟩:=bl5 A7 (w11.heap.size)
 obtain⟨F5,Eq,Eb,Dh,Dw⟩:=bl5 A7 (w12.heap.size)
 go_wp2_with fail
 refine(SM0.out _).mono ?_
 rintro e w14 ⟨rfl,A2⟩
 obtain⟨Ht,Ha,Gr,Fo,G7⟩:=bl5 A2 (w4.heap.size)
 obtain⟨Hu,Hb,Gs,Fp,G8⟩:=bl5 A2 (w6.heap.size)
 obtain⟨Hv,Hc,Gt,Fq,G9⟩:=bl5 A2 (w8.heap.size)
 obtain⟨F6,Er,Ec,Di,Dx⟩:=bl5 A2 (w11.heap.size)
 obtain⟨F7,Es,Ed,Dj,Dy⟩:=bl5 A2 (w12.heap.size)
 obtain⟨F8,Et,Ee,Dk,Dz⟩:=bl5 A2 (w13.heap.size)
 go_wp2_with fail
 refine(SM1.out _).mono ?_
 rintro e w15 ⟨rfl,A3⟩
 obtain⟨Hw,Hd,Gu,Fr,Ga⟩:=bl5 A3 (w4.heap.size)
 obtain⟨Hx,He,Gv,Fs,Gb⟩:=bl5 A3 (w6.heap.size)
 obtain⟨Hy,Hf,Gw,Ft,Gc⟩:=bl5 A3 (w8.heap.size)
 obtain⟨F9,Eu,Ef,Dl,E0⟩:=bl5 A3 (w11.heap.size)
 obtain⟨Fa,Ev,Eg,Dm,E1⟩:=bl5 A3 (w12.heap.size)
 obtain⟨Fb,Ew,Eh,Dn,E2⟩:=bl5 A3 (w13.heap.size)
 go_wp2_with fail
 refine(SM2.out _).mono ?_
 rintro e w16 ⟨rfl,A4⟩
 obtain⟨Hz,Hg,Gx,Fu,Gd⟩:=bl5 A4 (w4.heap.size)
 obtain⟨I0,Hh,Gy,Fv,Ge⟩:=bl5 A4 (w6.heap.size)
 obtain⟨I1,Hi,Gz,Fw,Gf⟩:=bl5 A4 (w8.heap.size)
 obtain⟨Fc,Ex,Ei,Do,E3⟩:=bl5 A4 (w11.heap.size)
 obtain⟨Fd,Ey,Ej,Dp,E4⟩:=bl5 A4 (w12.heap.size)
 obtain⟨Fe,Ez,Ek,Dq,E5⟩:=bl5 A4 (w13.heap.size)
 go_wp2_with fail
 refine(SM3.out _).mono ?_
 rintro e w17 ⟨rfl,Ab⟩
 obtain⟨I2,Hj,H0,Fx,Gg⟩:=bl5 Ab (w6.heap.size)
 obtain⟨I3,Hk,H1,Fy,Gh⟩:=bl5 Ab (w8.heap.size)
 obtain⟨Ff,F0,El,Dr,E6⟩:=bl5 Ab (w12.heap.size)
 obtain⟨Fg,F1,Em,Ds,E7⟩:=bl5 Ab (w13.heap.size)
 go_wp2_with fail
 refine(SY.out _).mono ?_
 rintro e w18 ⟨rfl,B3⟩
 obtain⟨I4,Hl,H2,Fz,Gi⟩:=bl5 B3 (w8.heap.size)
 obtain⟨Fh,F2,En,Dt,E8⟩:=bl5 B3 (w13.heap.size)
 go_wp2_with fail
 refine(SZ.out _).mono ?_
 rintro e w19 ⟨rfl,De⟩
 obtain⟨I5,Hm,H3,G0,Gj⟩:=bl5 De (w8.heap.size)
 repeat' (first|go_values|go_skip|go_guarded|go_step|go_upon|(simp only[];go_simp))
 go_ret
 exact⟨rfl,blw⟩
set_option maxRecDepth 100000 in
set_option maxHeartbeats 16000000 in
theorem amps_ask (AW:Awake3) (A:Ask) (hp:A.pa=none→A.ls.length=0∧A.cap=0) (hc:¬ckQ A=0) (w:World) (hS:Std w) (hr:Row A.pa A.ls w) :
  Calls Tryz.prog 6 #[A.val] w fun e w'=>e = .returned (.bool true)∧Below w.heap.size w w':=by
 have AW:=Lib.hid AW
 have FW:=Lib.hid (fun w=>Few_any A w)
 have ST:=Lib.hid hS
 clear hS
 by_cases hn:A.ls.length≤42
 case neg =>
  have HN:=Lib.hid hn
  clear hr hp hn
  unfold Ask.val at FW ⊢
  generalize A.ls.length=len at *
  go_enter Tryz.func6,Tryz.ntmps6
  go_wp2_with fail
  refine(AW.out _ (ST.out.below blw)).mono ?_
  rintro e w1 ⟨rfl,A5⟩
  obtain⟨Ak,Ai,Ag,Ac,Ae⟩:=bl5 A5 (w.heap.size)
  go_wp2_with fail
  refine(FW.out _).mono ?_
  rintro e w2 ⟨t,rfl,ht,A8⟩
  obtain rfl:t=false:=by cases t;· rfl
                         ·exact absurd (ht rfl) HN.out
  obtain⟨Al,Aj,Ah,Ad,Af⟩:=bl5 A8 (w.heap.size)
  repeat' (first|go_values|go_skip|go_guarded|go_step|go_upon|(simp only[];go_simp))
  go_ret
  exact⟨rfl,blw⟩
 have CP:=Lib.hid (fun w hr=>CopyAsk_any A hp (by omega) w hr)
 obtain⟨Q,eQ⟩:∃Q,ckQ A=Q:=⟨_,rfl⟩
 have hQ:¬Q=0:=by rw[← eQ];exact hc
 have PR:=fun gp c w hr=>Product_no A Q eQ hQ gp c w hr
 have RE:=fun gp c w hr=>Reflected_no A Q eQ hQ gp c w hr
 have TR:=fun gp c w hr=>Transmitted_no A Q eQ hQ gp c w hr
 have RC:=fun w hr=>rCheckAsk_to A Q eQ w hr
 have hQ1:(Q==0)=false:=by simpa using hQ
 have hQ2:(Q != 0)=true:=by simpa using hQ
 clear hc eQ hQ
 generalize ckI A=I at *
 have HR:=Lib.hid hr
 clear hr hp hn
 unfold Ask.mv at CP PR RE TR
 unfold Ask.val at CP FW PR RE TR RC ⊢
 generalize A.ls.length=len at *
 have PR:=Lib.hid PR
 have RE:=Lib.hid RE
 have TR:=Lib.hid TR
 have RC:=Lib.hid RC
 have NB:=Lib.hid (fun g cap w h=>none3_any g 6 cap (by decide) w h)
 go_enter Tryz.func6,Tryz.ntmps6
 go_wp2_with fail
 refine(AW.out _ (ST.out.below blw)).mono ?_
 rintro e w1 ⟨rfl,A5⟩
 clear AW ST
 obtain⟨Ak,Ai,Ag,Ac,Ae⟩:=bl5 A5 (w.heap.size)
 go_wp2_with fail
 refine(FW.out _).mono ?_
 rintro e w2 ⟨t,rfl,ht,A8⟩
 clear ht
 obtain⟨Al,Aj,Ah,Ad,Af⟩:=bl5 A8 (w.heap.size)
 cases t
 ·repeat' (first|go_values|go_skip|go_guarded|go_step|go_upon|(simp only[];go_simp))
  go_ret
  exact⟨rfl,blw⟩
 go_wp2_with fail
 refine(CP.out _ (HR.out.bel blw)).mono ?_
 rintro e w3 ⟨g3,c3,rfl,hr3,hl3,hh3,B4⟩
 obtain⟨D7,D0,Ct,Cf,Cm⟩:=bl5 B4 (w.heap.size)
 go_wp2_with fail
 refine(PR.out g3 c3 _ hr3).mono ?_
 rintro e w4 ⟨rfl,B5⟩
 clear hr3
 obtain⟨D8,D1,Cu,Cg,Cn⟩:=bl5 B5 (w.heap.size)
 go_wp2_with fail
 refine(CP.out _ (HR.out.bel blw)).mono ?_
 rintro e w5 ⟨g5,c5,rfl,hr5,hl5,hh5,Am⟩
 obtain⟨D9,D2,Cv,Ch,Co⟩:=bl5 Am (w.heap.size)
 obtain⟨C6,Bx,Bo,B6,Bf⟩:=bl5 Am (w4.heap.size)
 go_wp2_with fail
 refine(RE.out g5 c5 _ hr5).mono ?_
 rintro e w6 ⟨rfl,An⟩
 clear hr5
 obtain⟨Da,D3,Cw,Ci,Cp⟩:=bl5 An (w.heap.size)
 obtain⟨C7,By,Bp,B7,Bg⟩:=bl5 An (w4.heap.size)
 go_wp2_with fail
 refine(CP.out _ (HR.out.bel blw)).mono ?_
 rintro e w7 ⟨g7,c7,rfl,hr7,hl7,hh7,A9⟩
 obtain⟨Db,D4,Cx,Cj,Cq⟩:=bl5 A9 (w.heap.size)
 obtain⟨C8,Bz,Bq,B8,Bh⟩:=bl5 A9 (w4.heap.size)
 obtain⟨C9,C0,Br,B9,Bi⟩:=bl5 A9 (w6.heap.size)
 go_wp2_with fail
 refine(TR.out g7 c7 _ hr7).mono ?_
 rintro e w8 ⟨rfl,Aa⟩
 clear hr7
 obtain⟨Dc,D5,Cy,Ck,Cr⟩:=bl5 Aa (w.heap.size)
 obtain⟨Ca,C1,Bs,Ba,Bj⟩:=bl5 Aa (w4.heap.size)
 obtain⟨Cb,C2,Bt,Bb,Bk⟩:=bl5 Aa (w6.heap.size)
 go_wp2_with fail
 refine(RC.out _ (HR.out.bel blw)).mono ?_
 rintro e w9 ⟨rfl,A1⟩
 clear CP PR RE TR RC
 obtain⟨Dd,D6,Cz,Cl,Cs⟩:=bl5 A1 (w.heap.size)
 obtain⟨Cc,C3,Bu,Bc,Bl⟩:=bl5 A1 (w4.heap.size)
 obtain⟨Cd,C4,Bv,Bd,Bm⟩:=bl5 A1 (w6.heap.size)
 obtain⟨Ce,C5,Bw,Be,Bn⟩:=bl5 A1 (w8.heap.size)
 go_wp2_with fail
 refine(NB.out _ _ _ ⟨by simp,fun k hk=>by match k,hk with|0,_=>go_simp|1,_=>go_simp|2,_=>go_simp|3,_=>go_simp|4,_=>go_simp|5,_=>go_simp,fun k hk=>by match k,hk with|0,_=>go_simp|1,_=>go_simp|2,_=>go_simp|3,_=>go_simp|4,_=>go_simp|5,_=>go_simp⟩).mono ?_
 rintro e w11 ⟨rfl,A0⟩
 obtain⟨B0,Ax,Au,Ao,Ar⟩:=bl5 A0 (w4.heap.size)
 obtain⟨B1,Ay,Av,Ap,As⟩:=bl5 A0 (w6.heap.size)
 obtain⟨B2,Az,Aw,Aq,At⟩:=bl5 A0 (w8.heap.size)
 repeat' (first|go_values|go_skip|go_guarded|go_step|go_upon|(simp only[];go_simp))
 go_ret
 exact⟨rfl,blw⟩
theorem amps_any (AW:Awake3) (A:Ask) (hp:A.pa=none→A.ls.length=0∧A.cap=0) (w:World) (hS:Std w) (hr:Row A.pa A.ls w) :
  Calls Tryz.prog 6 #[A.val] w fun e w'=>e = .returned (.bool true)∧Below w.heap.size w w':=by
 by_cases hc:ckQ A=0
 ·exact amps_good AW A hp hc w hS hr
 ·exact amps_ask AW A hp hc w hS hr
end Go.Proofs.YtnljkhlmdacfaaaGreatDoor
