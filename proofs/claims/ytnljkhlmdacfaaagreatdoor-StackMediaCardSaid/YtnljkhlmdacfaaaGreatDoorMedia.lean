/- StackMedia: the walk. -/
import Derived.Test.YtnljkhlmdacfaaaGreatDoorMediaPub
import Derived.Test.YtnljkhlmdacfaaaGreatDoorKCopy
import Derived.Test.YtnljkhlmdacfaaaGreatDoorRPubs
import Derived.Test.YtnljkhlmdacfaaaGreatDoorRAsk
import Derived.Test.YtnljkhlmdacfaaaGreatDoorSame3
import Derived.Test.YtnljkhlmdacfaaaGreatDoorKStk
namespace Go.Proofs.YtnljkhlmdacfaaaGreatDoor
open Go Go.Sort Go.RowKit
theorem ckI_mv (A:Ask) (p:Option Addr) (c:Nat):ckI (A.mv p c)=ckI A:=by unfold ckI;rfl
theorem CheckAsk_to (A:Ask) (q:Int) (hq:ckQ A=q) (g c:Nat) (w:World) (hr:Row (some ⟨g,0,none⟩) A.ls w) :
  Calls Tryz.prog 40 #[(A.mv (some ⟨g,0,none⟩) c).val] w fun e w'=>e = .returned (.tuple #[.int .i64 (ckI A),.int .i64 q])∧Below w.heap.size w w':=by
 have k:=CheckAsk_any (A.mv (some ⟨g,0,none⟩) c) w hr
 rw[ckI_mv,ckQ_mv,hq]at k
 exact k
theorem rCheckAsk_to (A:Ask) (q:Int) (hq:ckQ A=q) (w:World) (hr:Row A.pa A.ls w) :
  Calls Tryz.prog 19 #[A.val] w fun e w'=>e = .returned (.tuple #[.int .i64 (ckI A),.int .i64 q])∧Below w.heap.size w w':=by
 have k:=rCheckAsk_any A w hr
 rw[hq]at k
 exact k
theorem NormalIndex_to (A:Ask) (m:Int) (R:Res) (h:nixR A m=R) (g c:Nat) (w:World) (hr:Row (some ⟨g,0,none⟩) A.ls w) (hg:g<w.heap.size) :
  Calls Tryz.prog 41 #[(A.mv (some ⟨g,0,none⟩) c).val,.int .i64 m] w fun e w'=>e = .returned (.tuple #[.agg #[.complex .f64 (fl R.a) (fl R.b),.int .i64 R.c],.int .i64 R.q])∧Below w.heap.size w w':=by
 have k:=NormalIndex_at A g c m w hr hg
 rw[h,out_quad]at k
 exact k
theorem Admittance_to (A:Ask) (m:Int) (R:Res) (h:admM A m=R) (g c:Nat) (w:World) (hr:Row (some ⟨g,0,none⟩) A.ls w) (hg:g<w.heap.size) :
  Calls Tryz.prog 42 #[(A.mv (some ⟨g,0,none⟩) c).val,.int .i64 m] w fun e w'=>e = .returned (.tuple #[.agg #[.complex .f64 (fl R.a) (fl R.b),.int .i64 R.c],.int .i64 R.q])∧Below w.heap.size w w':=by
 have k:=Admittance_at A g c m w hr hg
 rw[h,out_quad]at k
 exact k
theorem bad_to (q:Int):fl (Res.bad q).a=0∧fl (Res.bad q).b=0∧(Res.bad q).c=0∧(Res.bad q).q=q:=by
 obtain⟨h1,h2,h3,h4⟩:=quad_bad q
 rw[h1,h2,h3,h4,fl_zero]
 exact⟨rfl,rfl,rfl,rfl⟩
set_option maxRecDepth 100000 in
set_option maxHeartbeats 16000000 in
theorem media_good (AW:Awake3) (A:Ask) (m:Int) (hp:A.pa=none→A.ls.length=0∧A.cap=0) (hq:opQ A m 0 1=0) (w:World) (hS:Std w) (hr:Row A.pa A.ls w) :
  Calls Tryz.prog 8 #[A.val,.int .i64 m] w fun e w'=>e = .returned (.bool true)∧Below w.heap.size w w':=by
 have AW:=Lib.hid AW
 have FW:=Lib.hid (fun w=>Few_any A w)
 have ST:=Lib.hid hS
 clear hS
 by_cases hn:A.ls.length≤42
 case neg =>
  have HN:=Lib.hid hn
  clear hr hp hn
  unfold Ask.val at FW ⊢
  generalize A.ls.length=len at *
  go_enter Tryz.func8,Tryz.ntmps8
  go_wp2_with fail
  refine(AW.out _ (ST.out.below blw)).mono ?_
  rintro e w1 ⟨rfl,A1⟩
  obtain⟨Ac,Aa,A8,A4,A6⟩:=bl5 A1 (w.heap.size)
  go_wp2_with fail
  refine(FW.out _).mono ?_
  rintro e w2 ⟨t,rfl,ht,A2⟩
  obtain rfl:t=false:=by cases t;· rfl
                         ·exact absurd (ht rfl) HN.out
  obtain⟨Ad,Ab,A9,A5,A7⟩:=bl5 A2 (w.heap.size)
  repeat' (first|go_values|go_skip|go_guarded|go_step|go_upon|(simp only[];go_simp))
  go_ret
  exact⟨rfl,blw⟩
 have CP:=Lib.hid (fun w hr=>CopyAsk_any A hp (by omega) w hr)
 have CK:=fun g c w hr=>CheckAsk_to A 0 (opQ_ok hq).1 g c w hr
 have RC:=fun w hr=>rCheckAsk_to A 0 (opQ_ok hq).1 w hr
 have hA:=ckQ_ok (opQ_ok hq).1
 have h0:=(opQ_ok hq).2.1
 have h1:=(opQ_ok hq).2.2
 have NI:=fun g c w hr hg=>NormalIndex_to A m _ (nix_ok hq) g c w hr hg
 have AD:=fun g c w hr hg=>Admittance_to A m _ (admM_ok hq) g c w hr hg
 have RN:=fun w hr=>rNormalIndex_any A hA m _ (rmed_num hA h0 h1) w hr
 have RA:=fun w hr=>rAdmittance_any A hA m _ (rmed_num hA h0 h1) w hr
 have WI:=fun w=>r7within_is m 0 (A.ls.length+1) true w (inR_yes.2 ⟨h0,h1⟩)
 have hlw:=len_wrap1 hA.len
 clear hA h0 h1 hq
 generalize norR 0 A (A.med m.toNat)=X at *
 generalize admR 0 A (A.med m.toNat)=Y at *
 have SX:=Lib.hid (fun w=>same3_any X.a X.b X.c w)
 have SY:=Lib.hid (fun w=>same3_any Y.a Y.b Y.c w)
 generalize ckI A=I at *
 have HR:=Lib.hid hr
 clear hr hp hn
 unfold Ask.mv at CP CK NI AD
 unfold Ask.val at CP FW CK NI AD RC RN RA ⊢
 generalize A.ls.length=len at *
 have CK:=Lib.hid CK
 have RC:=Lib.hid RC
 have NI:=Lib.hid NI
 have AD:=Lib.hid AD
 obtain⟨hw1,hw2⟩:=hlw
 have RN:=Lib.hid RN
 have RA:=Lib.hid RA
 have WI:=Lib.hid WI
 go_enter Tryz.func8,Tryz.ntmps8
 go_wp2_with fail
 refine(AW.out _ (ST.out.below blw)).mono ?_
 rintro e w1 ⟨rfl,A1⟩
 clear AW ST
 obtain⟨Ac,Aa,A8,A4,A6⟩:=bl5 A1 (w.heap.size)
 go_wp2_with fail
 refine(FW.out _).mono ?_
 rintro e w2 ⟨t,rfl,ht,A2⟩
 clear ht
 obtain⟨Ad,Ab,A9,A5,A7⟩:=bl5 A2 (w.heap.size)
 cases t
 ·repeat' (first|go_values|go_skip|go_guarded|go_step|go_upon|(simp only[];go_simp))
  go_ret
  exact⟨rfl,blw⟩
 go_wp2_with fail
 refine(CP.out _ (HR.out.bel blw)).mono ?_
 rintro e w3 ⟨g3,c3,rfl,hr3,hl3,hh3,Ar⟩
 obtain⟨C8,C1,Bu,Bg,Bn⟩:=bl5 Ar (w.heap.size)
 go_wp2_with fail
 refine(CK.out g3 c3 _ hr3).mono ?_
 rintro e w4 ⟨rfl,As⟩
 clear hr3
 obtain⟨C9,C2,Bv,Bh,Bo⟩:=bl5 As (w.heap.size)
 go_wp2_with fail
 refine(CP.out _ (HR.out.bel blw)).mono ?_
 rintro e w5 ⟨g5,c5,rfl,hr5,hl5,hh5,At⟩
 obtain⟨Ca,C3,Bw,Bi,Bp⟩:=bl5 At (w.heap.size)
 go_wp2_with fail
 refine(NI.out g5 c5 _ hr5 hh5).mono ?_
 rintro e w6 ⟨rfl,Au⟩
 clear hr5
 obtain⟨Cb,C4,Bx,Bj,Bq⟩:=bl5 Au (w.heap.size)
 go_wp2_with fail
 refine(CP.out _ (HR.out.bel blw)).mono ?_
 rintro e w7 ⟨g7,c7,rfl,hr7,hl7,hh7,Ae⟩
 obtain⟨Cc,C5,By,Bk,Br⟩:=bl5 Ae (w.heap.size)
 obtain⟨Bb,B7,B3,Av,Az⟩:=bl5 Ae (w6.heap.size)
 go_wp2_with fail
 refine(AD.out g7 c7 _ hr7 hh7).mono ?_
 rintro e w8 ⟨rfl,Af⟩
 clear hr7
 obtain⟨Cd,C6,Bz,Bl,Bs⟩:=bl5 Af (w.heap.size)
 obtain⟨Bc,B8,B4,Aw,B0⟩:=bl5 Af (w6.heap.size)
 go_wp2_with fail
 refine(RC.out _ (HR.out.bel blw)).mono ?_
 rintro e w9 ⟨rfl,A3⟩
 clear CP CK NI AD RC
 obtain⟨Ce,C7,C0,Bm,Bt⟩:=bl5 A3 (w.heap.size)
 obtain⟨Bd,B9,B5,Ax,B1⟩:=bl5 A3 (w6.heap.size)
 obtain⟨Be,Ba,B6,Ay,B2⟩:=bl5 A3 (w8.heap.size)
 go_wp2_with fail
 refine(WI.out _).mono ?_
 rintro e w10 ⟨rfl,hw10⟩
 rw[hw10];clear hw10 w10
 go_wp2_with fail
 refine(RN.out _ (HR.out.bel blw)).mono ?_
 rintro e w11 ⟨rfl,A0⟩
 obtain⟨Dt,Ds,Dr,Dp,Dq⟩:=bl5 A0 (w.heap.size)
 obtain⟨Ao,Am,Ak,Ag,Ai⟩:=bl5 A0 (w6.heap.size)
 obtain⟨Ap,An,Al,Ah,Aj⟩:=bl5 A0 (w8.heap.size)
 go_wp2_with fail
 refine(RA.out _ (HR.out.bel blw)).mono ?_
 rintro e w12 ⟨rfl,Bf⟩
 obtain⟨Dj,Dd,D7,Cv,D1⟩:=bl5 Bf (w6.heap.size)
 obtain⟨Dk,De,D8,Cw,D2⟩:=bl5 Bf (w8.heap.size)
 obtain⟨Cs,Cp,Cm,Cg,Cj⟩:=bl5 Bf (w11.heap.size)
 go_wp2_with fail
 refine(SX.out _).mono ?_
 rintro e w13 ⟨rfl,Aq⟩
 obtain⟨Dl,Df,D9,Cx,D3⟩:=bl5 Aq (w6.heap.size)
 obtain⟨Dm,Dg,Da,Cy,D4⟩:=bl5 Aq (w8.heap.size)
 obtain⟨Ct,Cq,Cn,Ch,Ck⟩:=bl5 Aq (w11.heap.size)
 obtain⟨Cu,Cr,Co,Ci,Cl⟩:=bl5 Aq (w12.heap.size)
 go_wp2_with fail
 refine(SY.out _).mono ?_
 rintro e w14 ⟨rfl,Cf⟩
 obtain⟨Dn,Dh,Db,Cz,D5⟩:=bl5 Cf (w6.heap.size)
 obtain⟨Do,Di,Dc,D0,D6⟩:=bl5 Cf (w8.heap.size)
 repeat' (first|go_values|go_skip|go_guarded|go_step|go_upon|(simp only[];go_simp))
 go_ret
 exact⟨rfl,blw⟩
set_option maxRecDepth 100000 in
set_option maxHeartbeats 16000000 in
theorem media_ask (AW:Awake3) (A:Ask) (m:Int) (hp:A.pa=none→A.ls.length=0∧A.cap=0) (hc:¬ckQ A=0) (w:World) (hS:Std w) (hr:Row A.pa A.ls w) :
  Calls Tryz.prog 8 #[A.val,.int .i64 m] w fun e w'=>e = .returned (.bool true)∧Below w.heap.size w w':=by
 have AW:=Lib.hid AW
 have FW:=Lib.hid (fun w=>Few_any A w)
 have ST:=Lib.hid hS
 clear hS
 by_cases hn:A.ls.length≤42
 case neg =>
  have HN:=Lib.hid hn
  clear hr hp hn
  unfold Ask.val at FW ⊢
  generalize A.ls.length=len at *
  go_enter Tryz.func8,Tryz.ntmps8
  go_wp2_with fail
  refine(AW.out _ (ST.out.below blw)).mono ?_
  rintro e w1 ⟨rfl,A1⟩
  obtain⟨Ac,Aa,A8,A4,A6⟩:=bl5 A1 (w.heap.size)
  go_wp2_with fail
  refine(FW.out _).mono ?_
  rintro e w2 ⟨t,rfl,ht,A2⟩
  obtain rfl:t=false:=by cases t;· rfl
                         ·exact absurd (ht rfl) HN.out
  obtain⟨Ad,Ab,A9,A5,A7⟩:=bl5 A2 (w.heap.size)
  repeat' (first|go_values|go_skip|go_guarded|go_step|go_upon|(simp only[];go_simp))
  go_ret
  exact⟨rfl,blw⟩
 have CP:=Lib.hid (fun w hr=>CopyAsk_any A hp (by omega) w hr)
 have CK:=fun g c w hr=>CheckAsk_to A _ rfl g c w hr
 have RC:=fun w hr=>rCheckAsk_to A _ rfl w hr
 have hq:¬opQ A m 0 1=0:=by rw[opQ_ask hc];exact hc
 have hX:=nix_bad hq
 have hY:=admM_bad hq
 rw[opQ_ask hc]at hX hY
 have NI:=fun g c w hr hg=>NormalIndex_to A m _ hX g c w hr hg
 have AD:=fun g c w hr hg=>Admittance_to A m _ hY g c w hr hg
 obtain⟨b1,b2,b3,b4⟩:=bad_to (ckQ A)
 simp only[b1,b2,b3,b4]at NI AD
 clear b1 b2 b3 b4 hX hY
 generalize ckQ A=Q at *
 have hQ1:(Q==0)=false:=by simpa using hc
 have hQ2:(Q != 0)=true:=by simpa using hc
 clear hq hc
 generalize ckI A=I at *
 have HR:=Lib.hid hr
 clear hr hp hn
 unfold Ask.mv at CP CK NI AD
 unfold Ask.val at CP FW CK NI AD RC ⊢
 generalize A.ls.length=len at *
 have CK:=Lib.hid CK
 have RC:=Lib.hid RC
 have NI:=Lib.hid NI
 have AD:=Lib.hid AD
 have NB:=Lib.hid (fun g cap w h=>none3_any g 2 cap (by decide) w h)
 go_enter Tryz.func8,Tryz.ntmps8
 go_wp2_with fail
 refine(AW.out _ (ST.out.below blw)).mono ?_
 rintro e w1 ⟨rfl,A1⟩
 clear AW ST
 obtain⟨Ac,Aa,A8,A4,A6⟩:=bl5 A1 (w.heap.size)
 go_wp2_with fail
 refine(FW.out _).mono ?_
 rintro e w2 ⟨t,rfl,ht,A2⟩
 clear ht
 obtain⟨Ad,Ab,A9,A5,A7⟩:=bl5 A2 (w.heap.size)
 cases t
 ·repeat' (first|go_values|go_skip|go_guarded|go_step|go_upon|(simp only[];go_simp))
  go_ret
  exact⟨rfl,blw⟩
 go_wp2_with fail
 refine(CP.out _ (HR.out.bel blw)).mono ?_
 rintro e w3 ⟨g3,c3,rfl,hr3,hl3,hh3,Ar⟩
 obtain⟨C8,C1,Bu,Bg,Bn⟩:=bl5 Ar (w.heap.size)
 go_wp2_with fail
 refine(CK.out g3 c3 _ hr3).mono ?_
 rintro e w4 ⟨rfl,As⟩
 clear hr3
 obtain⟨C9,C2,Bv,Bh,Bo⟩:=bl5 As (w.heap.size)
 go_wp2_with fail
 refine(CP.out _ (HR.out.bel blw)).mono ?_
 rintro e w5 ⟨g5,c5,rfl,hr5,hl5,hh5,At⟩
 obtain⟨Ca,C3,Bw,Bi,Bp⟩:=bl5 At (w.heap.size)
 go_wp2_with fail
 refine(NI.out g5 c5 _ hr5 hh5).mono ?_
 rintro e w6 ⟨rfl,Au⟩
 clear hr5
 obtain⟨Cb,C4,Bx,Bj,Bq⟩:=bl5 Au (w.heap.size)
 go_wp2_with fail
 refine(CP.out _ (HR.out.bel blw)).mono ?_
 rintro e w7 ⟨g7,c7,rfl,hr7,hl7,hh7,Ae⟩
 obtain⟨Cc,C5,By,Bk,Br⟩:=bl5 Ae (w.heap.size)
 obtain⟨Bb,B7,B3,Av,Az⟩:=bl5 Ae (w6.heap.size)
 go_wp2_with fail
 refine(AD.out g7 c7 _ hr7 hh7).mono ?_
 rintro e w8 ⟨rfl,Af⟩
 clear hr7
 obtain⟨Cd,C6,Bz,Bl,Bs⟩:=bl5 Af (w.heap.size)
 obtain⟨Bc,B8,B4,Aw,B0⟩:=bl5 Af (w6.heap.size)
 go_wp2_with fail
 refine(RC.out _ (HR.out.bel blw)).mono ?_
 rintro e w9 ⟨rfl,A3⟩
 clear CP CK NI AD RC
 obtain⟨Ce,C7,C0,Bm,Bt⟩:=bl5 A3 (w.heap.size)
 obtain⟨Bd,B9,B5,Ax,B1⟩:=bl5 A3 (w6.heap.size)
 obtain⟨Be,Ba,B6,Ay,B2⟩:=bl5 A3 (w8.heap.size)
 go_wp2_with fail
 refine(NB.out _ _ _ ⟨by simp,fun k hk=>by match k,hk with|0,_=>go_simp|1,_=>go_simp,fun k hk=>by match k,hk with|0,_=>go_simp|1,_=>go_simp⟩).mono ?_
 rintro e w11 ⟨rfl,A0⟩
 obtain⟨Ao,Am,Ak,Ag,Ai⟩:=bl5 A0 (w6.heap.size)
 obtain⟨Ap,An,Al,Ah,Aj⟩:=bl5 A0 (w8.heap.size)
 repeat' (first|go_values|go_skip|go_guarded|go_step|go_upon|(simp only[];go_simp))
 go_ret
 exact⟨rfl,blw⟩
set_option maxRecDepth 100000 in
set_option maxHeartbeats 16000000 in
theorem media_num (AW:Awake3) (A:Ask) (m:Int) (hp:A.pa=none→A.ls.length=0∧A.cap=0) (hc:ckQ A=0) (hin:inR m 0 (A.ls.length+1)=false) (w:World) (hS:Std w) (hr:Row A.pa A.ls w) :
  Calls Tryz.prog 8 #[A.val,.int .i64 m] w fun e w'=>e = .returned (.bool true)∧Below w.heap.size w w':=by
 have AW:=Lib.hid AW
 have FW:=Lib.hid (fun w=>Few_any A w)
 have ST:=Lib.hid hS
 clear hS
 by_cases hn:A.ls.length≤42
 case neg =>
  have HN:=Lib.hid hn
  clear hr hp hn
  unfold Ask.val at FW ⊢
  generalize A.ls.length=len at *
  go_enter Tryz.func8,Tryz.ntmps8
  go_wp2_with fail
  refine(AW.out _ (ST.out.below blw)).mono ?_
  rintro e w1 ⟨rfl,A1⟩
  obtain⟨Ac,Aa,A8,A4,A6⟩:=bl5 A1 (w.heap.size)
  go_wp2_with fail
  refine(FW.out _).mono ?_
  rintro e w2 ⟨t,rfl,ht,A2⟩
  obtain rfl:t=false:=by cases t;· rfl
                         ·exact absurd (ht rfl) HN.out
  obtain⟨Ad,Ab,A9,A5,A7⟩:=bl5 A2 (w.heap.size)
  repeat' (first|go_values|go_skip|go_guarded|go_step|go_upon|(simp only[];go_simp))
  go_ret
  exact⟨rfl,blw⟩
 have CP:=Lib.hid (fun w hr=>CopyAsk_any A hp (by omega) w hr)
 have CK:=fun g c w hr=>CheckAsk_to A 0 hc g c w hr
 have RC:=fun w hr=>rCheckAsk_to A 0 hc w hr
 have e6:=opQ_out hc hin
 have hq:¬opQ A m 0 1=0:=by rw[e6];decide
 have hX:=nix_bad hq
 have hY:=admM_bad hq
 rw[e6]at hX hY
 have NI:=fun g c w hr hg=>NormalIndex_to A m _ hX g c w hr hg
 have AD:=fun g c w hr hg=>Admittance_to A m _ hY g c w hr hg
 obtain⟨b1,b2,b3,b4⟩:=bad_to (6)
 simp only[b1,b2,b3,b4]at NI AD
 clear b1 b2 b3 b4 hX hY
 have WI:=fun w=>r7within_is m 0 (A.ls.length+1) false w hin
 have hlw:=len_wrap1 (ckQ_ok hc).len
 clear hq hc hin e6
 generalize ckI A=I at *
 have HR:=Lib.hid hr
 clear hr hp hn
 unfold Ask.mv at CP CK NI AD
 unfold Ask.val at CP FW CK NI AD RC ⊢
 generalize A.ls.length=len at *
 have CK:=Lib.hid CK
 have RC:=Lib.hid RC
 have NI:=Lib.hid NI
 have AD:=Lib.hid AD
 have NB:=Lib.hid (fun g cap w h=>none3_any g 2 cap (by decide) w h)
 obtain⟨hw1,hw2⟩:=hlw
 have WI:=Lib.hid WI
 go_enter Tryz.func8,Tryz.ntmps8
 go_wp2_with fail
 refine(AW.out _ (ST.out.below blw)).mono ?_
 rintro e w1 ⟨rfl,A1⟩
 clear AW ST
 obtain⟨Ac,Aa,A8,A4,A6⟩:=bl5 A1 (w.heap.size)
 go_wp2_with fail
 refine(FW.out _).mono ?_
 rintro e w2 ⟨t,rfl,ht,A2⟩
 clear ht
 obtain⟨Ad,Ab,A9,A5,A7⟩:=bl5 A2 (w.heap.size)
 cases t
 ·repeat' (first|go_values|go_skip|go_guarded|go_step|go_upon|(simp only[];go_simp))
  go_ret
  exact⟨rfl,blw⟩
 go_wp2_with fail
 refine(CP.out _ (HR.out.bel blw)).mono ?_
 rintro e w3 ⟨g3,c3,rfl,hr3,hl3,hh3,Ar⟩
 obtain⟨C8,C1,Bu,Bg,Bn⟩:=bl5 Ar (w.heap.size)
 go_wp2_with fail
 refine(CK.out g3 c3 _ hr3).mono ?_
 rintro e w4 ⟨rfl,As⟩
 clear hr3
 obtain⟨C9,C2,Bv,Bh,Bo⟩:=bl5 As (w.heap.size)
 go_wp2_with fail
 refine(CP.out _ (HR.out.bel blw)).mono ?_
 rintro e w5 ⟨g5,c5,rfl,hr5,hl5,hh5,At⟩
 obtain⟨Ca,C3,Bw,Bi,Bp⟩:=bl5 At (w.heap.size)
 go_wp2_with fail
 refine(NI.out g5 c5 _ hr5 hh5).mono ?_
 rintro e w6 ⟨rfl,Au⟩
 clear hr5
 obtain⟨Cb,C4,Bx,Bj,Bq⟩:=bl5 Au (w.heap.size)
 go_wp2_with fail
 refine(CP.out _ (HR.out.bel blw)).mono ?_
 rintro e w7 ⟨g7,c7,rfl,hr7,hl7,hh7,Ae⟩
 obtain⟨Cc,C5,By,Bk,Br⟩:=bl5 Ae (w.heap.size)
 obtain⟨Bb,B7,B3,Av,Az⟩:=bl5 Ae (w6.heap.size)
 go_wp2_with fail
 refine(AD.out g7 c7 _ hr7 hh7).mono ?_
 rintro e w8 ⟨rfl,Af⟩
 clear hr7
 obtain⟨Cd,C6,Bz,Bl,Bs⟩:=bl5 Af (w.heap.size)
 obtain⟨Bc,B8,B4,Aw,B0⟩:=bl5 Af (w6.heap.size)
 go_wp2_with fail
 refine(RC.out _ (HR.out.bel blw)).mono ?_
 rintro e w9 ⟨rfl,A3⟩
 clear CP CK NI AD RC
 obtain⟨Ce,C7,C0,Bm,Bt⟩:=bl5 A3 (w.heap.size)
 obtain⟨Bd,B9,B5,Ax,B1⟩:=bl5 A3 (w6.heap.size)
 obtain⟨Be,Ba,B6,Ay,B2⟩:=bl5 A3 (w8.heap.size)
 go_wp2_with fail
 refine(WI.out _).mono ?_
 rintro e w10 ⟨rfl,hw10⟩
 rw[hw10];clear hw10 w10
 go_wp2_with fail
 refine(NB.out _ _ _ ⟨by simp,fun k hk=>by match k,hk with|0,_=>go_simp|1,_=>go_simp,fun k hk=>by match k,hk with|0,_=>go_simp|1,_=>go_simp⟩).mono ?_
 rintro e w11 ⟨rfl,A0⟩
 obtain⟨Ao,Am,Ak,Ag,Ai⟩:=bl5 A0 (w6.heap.size)
 obtain⟨Ap,An,Al,Ah,Aj⟩:=bl5 A0 (w8.heap.size)
 repeat' (first|go_values|go_skip|go_guarded|go_step|go_upon|(simp only[];go_simp))
 go_ret
 exact⟨rfl,blw⟩
theorem media_any (AW:Awake3) (A:Ask) (m:Int) (hp:A.pa=none→A.ls.length=0∧A.cap=0) (w:World) (hS:Std w) (hr:Row A.pa A.ls w) :
  Calls Tryz.prog 8 #[A.val,.int .i64 m] w fun e w'=>e = .returned (.bool true)∧Below w.heap.size w w':=by
 by_cases hc:ckQ A=0
 ·cases hin:inR m 0 (A.ls.length+1)
  ·exact media_num AW A m hp hc hin w hS hr
  ·exact media_good AW A m hp (opQ_in hc hin) w hS hr
 ·exact media_ask AW A m hp hc w hS hr
end Go.Proofs.YtnljkhlmdacfaaaGreatDoor
