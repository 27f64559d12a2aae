/- TopAmplitudesBack: the walk (its end by gen_back.py). -/
import Derived.Test.YtllpncmpofhgmaaGreatTopBase
import Derived.Test.YtllpncmpofhgmaaGreatCutI
import Derived.Deep.RegionHeld3
namespace Go.Proofs.YtllpncmpofhgmaaGreat
open Go Go.Sort Go.RowKit
set_option maxHeartbeats 4000000 in
theorem ampsBack_of (ST:StackedYes) (A:Ask) (hp:A.pa=none→A.ls.length=0∧A.cap=0) (w:World) (hr:Row A.pa A.ls w) :
  Calls Tryz.prog 4 #[A.val] w fun e w'=>e = .returned (.bool true)∧Below w.heap.size w w':=by
 have ST:=Lib.hid ST
 have FW:=Lib.hid (fun w=>Few_any A w)
 by_cases hn:A.ls.length≤42
 case neg =>
  have HN:=Lib.hid hn
  clear hr hp hn
  unfold Ask.val at FW ⊢
  generalize A.ls.length=len at *
  go_enter Tryz.func4,Tryz.ntmps4
  go_wp2_with fail
  refine(ST.out _).mono ?_
  rintro e w1 ⟨rfl,A5⟩
  have Ar:=bl5 A5 (w.heap.size)
  go_wp2_with fail
  refine(FW.out _).mono ?_
  rintro e w2 ⟨t,rfl,ht,A6⟩
  obtain rfl:t=false:=by cases t;· rfl
                         ·exact absurd (ht rfl) HN.out
  have As:=bl5 A6 (w.heap.size)
  repeat' (first|go_values|go_skip|go_guarded|go_step|go_upon|(simp only[];go_simp))
  refine bodyPost_ret (by simp[results,Tryz.results4,go_sem, *];first|done|rfl) rfl ?_
  exact⟨rfl,blw⟩
 have CP:=Lib.hid (fun w hr=>CopyAsk_any A hp (by omega) w hr)
 have OS:=Lib.hid (fun g c w hr=>OtherSide_any A g c w hr)
 have HR:=Lib.hid hr
 clear hr hp hn
 unfold zeroAsk at OS
 unfold Ask.mv at CP OS
 unfold other at OS
 unfold Ask.val at CP FW OS ⊢
 simp only[List.length_reverse]at CP OS
 generalize hlen:A.ls.length=len at *
 have HLEN:=Lib.hid hlen
 clear hlen
 go_enter Tryz.func4,Tryz.ntmps4
 go_wp2_with fail
 refine(ST.out _).mono ?_
 rintro e w1 ⟨rfl,A5⟩
 have Ar:=bl5 A5 (w.heap.size)
 go_wp2_with fail
 refine(FW.out _).mono ?_
 rintro e w2 ⟨t,rfl,ht,A6⟩
 clear ht
 have As:=bl5 A6 (w.heap.size)
 cases t
 ·repeat' (first|go_values|go_skip|go_guarded|go_step|go_upon|(simp only[];go_simp))
  refine bodyPost_ret (by simp[results,Tryz.results4,go_sem, *];first|done|rfl) rfl ?_
  exact⟨rfl,blw⟩
 go_wp2_with fail
 refine(CP.out _ (HR.out.bel blw)).mono ?_
 rintro e w3 ⟨g3,c3,rfl,hr3,hl3,hh3,B3⟩
 have Bd:=bl5 B3 (w.heap.size)
 go_wp2_with fail
 refine(OS.out g3 c3 _ hr3).mono ?_
 rintro e w4 ⟨hE,B4⟩
 clear hr3
 have Be:=bl5 B4 (w.heap.size)
 rcases hE with⟨q,hq,rfl⟩|⟨oA,oq,p,c4,rfl,hr4,hl4,hh4⟩
 ·repeat' (first|go_values|go_skip|go_guarded|go_step|go_upon|(simp only[];go_simp))
  refine bodyPost_ret (by simp[results,Tryz.results4,go_sem, *];first|done|rfl) rfl ?_
  exact⟨rfl,blw⟩
 have CL:=amps_meet oA oq (some p) c4
 rw[med_zero,med_past]at CL
 have TR:=Lib.hid (fun g c (w:World) hr hpa=>Transmitted_any (A.mv (some ⟨g,0,none⟩) c) (ok_mv oA _ _) w hr hpa)
 have fT:=fine_amp A true
 have eT:∀g c,ampR (A.mv (some ⟨g,0,none⟩) c) true=ampR A true:=fun g c=>amp_mv A (some ⟨g,0,none⟩) c true
 simp only[eT]at TR
 clear eT
 unfold Ask.mv Ask.val at TR
 simp only at TR
 rw[out_quad,HLEN.out]at TR
 generalize hT:ampR A true=T at *
 go_wp2_with fail
 refine(CP.out _ (HR.out.bel blw)).mono ?_
 rintro e w5 ⟨g5,c5,rfl,hr5,hl5,hh5,An⟩
 have At:=bl5 An (w.heap.size)
 have Ae:=bl5 An (w4.heap.size)
 go_wp2_with fail
 refine(TR.out g5 c5 _ hr5 (fun a h=>by cases h;exact hh5)).mono ?_
 rintro e w6 ⟨rfl,Ao⟩
 clear hr5
 have Au:=bl5 Ao (w.heap.size)
 have Af:=bl5 Ao (w4.heap.size)
 go_wp2_with fail
 have oO:=other_ok oA oq (some p) c4
 have CP2:=Lib.hid (fun(w:World) hr=>CopyAsk_any (other A (some p) c4) (fun h=>by cases h) (by show A.ls.reverse.length≤1000;rw[List.length_reverse];have:=oA.len;omega) w hr)
 have TR2:=Lib.hid (fun g c (w:World) hr hpa=>Transmitted_any ((other A (some p) c4).mv (some ⟨g,0,none⟩) c) (ok_mv oO _ _) w hr hpa)
 have fU:=fine_amp (other A (some p) c4) true
 have eU:∀g c,ampR ((other A (some p) c4).mv (some ⟨g,0,none⟩) c) true=ampR (other A (some p) c4) true:=fun g c=>amp_mv (other A (some p) c4) (some ⟨g,0,none⟩) c true
 simp only[eU]at TR2
 clear eU
 generalize hU:ampR (other A (some p) c4) true=U at *
 unfold Ask.mv other Ask.val at TR2 CP2
 simp only[List.length_reverse]at TR2 CP2
 rw[HLEN.out]at CP2
 rw[out_quad,HLEN.out]at TR2
 refine(CP2.out _ (hr4.bel (show Below w4.heap.size w4 _ from blw))).mono ?_
 rintro e w7 ⟨g7,c7,rfl,hr7,hl7,hh7,A8⟩
 have Av:=bl5 A8 (w.heap.size)
 have Ag:=bl5 A8 (w4.heap.size)
 have Ah:=bl5 A8 (w6.heap.size)
 go_wp2_with fail
 refine(TR2.out g7 c7 _ hr7 (fun a h=>by cases h;exact hh7)).mono ?_
 rintro e w8 ⟨rfl,A9⟩
 clear hr7
 have Aw:=bl5 A9 (w.heap.size)
 have Ai:=bl5 A9 (w4.heap.size)
 have Aj:=bl5 A9 (w6.heap.size)
 have AD0:=Lib.hid (fun g c (w:World) hr hpa=>Admittance_any (A.mv (some ⟨g,0,none⟩) c) (ok_mv oA _ _) 0 _ (by decide) (by omega) (med_front _ (ok_mv oA _ _)) w hr hpa)
 simp only[adm_mv]at AD0
 unfold Ask.mv Ask.val at AD0
 simp only at AD0
 rw[out_quad,HLEN.out]at AD0
 have fY:=fine_adm 0 A ⟨A.ix,A.ix,0,0,0⟩
 generalize hY:admR 0 A ⟨A.ix,A.ix,0,0,0⟩=Y at *
 go_wp2_with fail
 refine(CP.out _ (HR.out.bel blw)).mono ?_
 rintro e w9 ⟨g9,c9,rfl,hr9,hl9,hh9,A4⟩
 have Ax:=bl5 A4 (w.heap.size)
 have Ak:=bl5 A4 (w4.heap.size)
 have Al:=bl5 A4 (w6.heap.size)
 have Am:=bl5 A4 (w8.heap.size)
 go_wp2_with fail
 refine(AD0.out g9 c9 _ hr9 (fun a h=>by cases h;exact hh9)).mono ?_
 rintro e w10 ⟨rfl,A1⟩
 clear hr9
 have Ad:=bl5 A1 (w.heap.size)
 have Aa:=bl5 A1 (w4.heap.size)
 have Ab:=bl5 A1 (w6.heap.size)
 have Ac:=bl5 A1 (w8.heap.size)
 have b0_w10:w10.cell? ⟨w.heap.size,0,none⟩=some (.int .i64 A.ix):=keepC A1 (by go_simp)
 have b1_w10:w10.cell? ⟨w.heap.size,1,none⟩=some (.int .i64 A.sl):=keepC A1 (by go_simp)
 have b2_w10:w10.cell? ⟨w.heap.size,2,none⟩=some (.int .i64 A.sh):=keepC A1 (by go_simp)
 have b3_w10:w10.cell? ⟨w.heap.size,3,none⟩=some (.int .i64 A.po):=keepC A1 (by go_simp)
 have b4_w10:w10.cell? ⟨w.heap.size,4,none⟩=some (.int .i64 A.wl):=keepC A1 (by go_simp)
 have b5_w10:w10.cell? ⟨w.heap.size,5,none⟩=some (.int .i64 A.wh):=keepC A1 (by go_simp)
 have b6_w10:w10.cell? ⟨w.heap.size,6,none⟩=some (.slice A.pa len A.cap):=keepC A1 (by go_simp)
 have b7_w10:w10.cell? ⟨w.heap.size,7,none⟩=some (.int .i64 A.oi):=keepC A1 (by go_simp)
 have b8_w10:w10.cell? ⟨w.heap.size,8,none⟩=some (.int .i64 A.ol):=keepC A1 (by go_simp)
 have Ay:w10.cell? ⟨w6.heap.size,0,none⟩=some (.complex .f64 (fl T.a) (fl T.b)):=keepC A1 (by go_simp)
 have Bf:w10.cell? ⟨w6.heap.size,1,none⟩=some (.int .i64 T.c):=keepC A1 (by go_simp)
 have u0_w10:w10.cell? ⟨w8.heap.size,0,none⟩=some (.complex .f64 (fl U.a) (fl U.b)):=keepC A1 (by go_simp)
 have u1_w10:w10.cell? ⟨w8.heap.size,1,none⟩=some (.int .i64 U.c):=keepC A1 (by go_simp)
 have lb_w10:=World.block_lt_of_cell? _ _ b0_w10
 simp only at lb_w10
 have nb_w10:¬w.heap.size=w10.heap.size:=(by omega)
 have ub_w10:¬w10.heap.size=w.heap.size:=(by omega)
 have mb_w10:w.heap.size<w10.heap.size+1:=(by omega)
 have lt_w10:=World.block_lt_of_cell? _ _ Ay
 simp only at lt_w10
 have nt_w10:¬w6.heap.size=w10.heap.size:=(by omega)
 have ut_w10:¬w10.heap.size=w6.heap.size:=(by omega)
 have mt_w10:w6.heap.size<w10.heap.size+1:=(by omega)
 have lu_w10:=World.block_lt_of_cell? _ _ u0_w10
 simp only at lu_w10
 have nu_w10:¬w8.heap.size=w10.heap.size:=(by omega)
 have uu_w10:¬w10.heap.size=w8.heap.size:=(by omega)
 have mu_w10:w8.heap.size<w10.heap.size+1:=(by omega)
 (try clear At Ae Au Af Av Ag Ah Aw Ai Aj Ax Ak Al Am Ad Aa Ab Ac)
 have hle:=oA.len
 rw[HLEN.out]at hle
 have AD1:=Lib.hid (fun g c (w:World) hr hpa=>Admittance_any (A.mv (some ⟨g,0,none⟩) c) (ok_mv oA _ _) (A.ls.length+1) _ (by omega) (by show(A.ls.length:Int)+1≤A.ls.length+1;omega) (med_last _ (ok_mv oA _ _)) w hr hpa)
 simp only[adm_mv]at AD1
 unfold Ask.mv Ask.val at AD1
 simp only at AD1
 rw[out_quad,HLEN.out]at AD1
 have fZ:=fine_adm 0 A ⟨A.oi,A.oi,0,0,A.ol⟩
 generalize hZ:admR 0 A ⟨A.oi,A.oi,0,0,A.ol⟩=Z at *
 obtain⟨hw1,hw2⟩:=len_wrap hle
 go_wp2_with fail
 refine wp_cutI (ι:=Nat × Nat × Nat) (fun i a9=>((((((((((((a9.put (some 51) (.agg #[.int .i64 A.ix,.int .i64 A.sl,.int .i64 A.sh,.int .i64 A.po,.int .i64 A.wl,.int .i64 A.wh,.slice A.pa len A.cap,.int .i64 A.oi,.int .i64 A.ol])).put (some 52) (.agg #[.int .i64 A.ix,.int .i64 A.sl,.int .i64 A.sh,.int .i64 A.po,.int .i64 A.wl,.int .i64 A.wh,.slice (some ⟨i.1,0,none⟩) len i.2.1,.int .i64 A.oi,.int .i64 A.ol])).put (some 53) (.pointer (some ⟨w.heap.size,6,none⟩))).put (some 54) (.slice A.pa len A.cap)).put (some 55) (.int .i64 len)).put (some 56) (.int .i64 (len+1))).put (some 57) (.tuple #[.agg #[.complex .f64 (fl Z.a) (fl Z.b),.int .i64 Z.c],.int .i64 Z.q])).put (some 50) (.tuple #[.agg #[.complex .f64 (fl Z.a) (fl Z.b),.int .i64 Z.c],.int .i64 Z.q])).put (some 58) (.agg #[.complex .f64 (fl Z.a) (fl Z.b),.int .i64 Z.c])).put (some 59) (.int .i64 Z.q)).put (some 11) (.pointer (some ⟨i.2.2,0,none⟩))).put (some 12) (.int .i64 Z.q))) (fun i w'=>Below w.heap.size w w'∧w'.cell? ⟨w6.heap.size,0,none⟩=some (.complex .f64 (fl T.a) (fl T.b))∧w'.cell? ⟨w6.heap.size,1,none⟩=some (.int .i64 T.c)∧w'.cell? ⟨w8.heap.size,0,none⟩=some (.complex .f64 (fl U.a) (fl U.b))∧w'.cell? ⟨w8.heap.size,1,none⟩=some (.int .i64 U.c)∧w'.cell? ⟨w10.heap.size,0,none⟩=some (.complex .f64 (fl Y.a) (fl Y.b))∧w'.cell? ⟨w10.heap.size,1,none⟩=some (.int .i64 Y.c)∧w'.cell? ⟨i.2.2,0,none⟩=some (.complex .f64 (fl Z.a) (fl Z.b))∧w'.cell? ⟨i.2.2,1,none⟩=some (.int .i64 Z.c)) ?_ ?_
 ·(go_region_held3 (fun w'=>w'.cell? ⟨w.heap.size,0,none⟩=some (.int .i64 A.ix)∧w'.cell? ⟨w.heap.size,1,none⟩=some (.int .i64 A.sl)∧w'.cell? ⟨w.heap.size,2,none⟩=some (.int .i64 A.sh)∧w'.cell? ⟨w.heap.size,3,none⟩=some (.int .i64 A.po)∧w'.cell? ⟨w.heap.size,4,none⟩=some (.int .i64 A.wl)∧w'.cell? ⟨w.heap.size,5,none⟩=some (.int .i64 A.wh)∧w'.cell? ⟨w.heap.size,6,none⟩=some (.slice A.pa len A.cap)∧w'.cell? ⟨w.heap.size,7,none⟩=some (.int .i64 A.oi)∧w'.cell? ⟨w.heap.size,8,none⟩=some (.int .i64 A.ol)) (simp[*,go_sem])
   (first
    | (go_at_call 10;(with_reducible refine(CP.out _ (HR.out.bel ?_)).mono ?_);(·exact blw);rintro E w11 ⟨g,c,rfl,hr11,hl11,hh11,A2⟩;have HR11:=Lib.hid hr11;clear hr11;have b0_w11:w11.cell? ⟨w.heap.size,0,none⟩=some (.int .i64 A.ix):=keepC A2 (by go_simp);have b1_w11:w11.cell? ⟨w.heap.size,1,none⟩=some (.int .i64 A.sl):=keepC A2 (by go_simp);have b2_w11:w11.cell? ⟨w.heap.size,2,none⟩=some (.int .i64 A.sh):=keepC A2 (by go_simp);have b3_w11:w11.cell? ⟨w.heap.size,3,none⟩=some (.int .i64 A.po):=keepC A2 (by go_simp);have b4_w11:w11.cell? ⟨w.heap.size,4,none⟩=some (.int .i64 A.wl):=keepC A2 (by go_simp);have b5_w11:w11.cell? ⟨w.heap.size,5,none⟩=some (.int .i64 A.wh):=keepC A2 (by go_simp);have b6_w11:w11.cell? ⟨w.heap.size,6,none⟩=some (.slice A.pa len A.cap):=keepC A2 (by go_simp);have b7_w11:w11.cell? ⟨w.heap.size,7,none⟩=some (.int .i64 A.oi):=keepC A2 (by go_simp);have b8_w11:w11.cell? ⟨w.heap.size,8,none⟩=some (.int .i64 A.ol):=keepC A2 (by go_simp);have Az:w11.cell? ⟨w6.heap.size,0,none⟩=some (.complex .f64 (fl T.a) (fl T.b)):=keepC A2 (by go_simp);have Bg:w11.cell? ⟨w6.heap.size,1,none⟩=some (.int .i64 T.c):=keepC A2 (by go_simp);have u0_w11:w11.cell? ⟨w8.heap.size,0,none⟩=some (.complex .f64 (fl U.a) (fl U.b)):=keepC A2 (by go_simp);have u1_w11:w11.cell? ⟨w8.heap.size,1,none⟩=some (.int .i64 U.c):=keepC A2 (by go_simp);have y0_w11:w11.cell? ⟨w10.heap.size,0,none⟩=some (.complex .f64 (fl Y.a) (fl Y.b)):=keepC A2 (by go_simp);have y1_w11:w11.cell? ⟨w10.heap.size,1,none⟩=some (.int .i64 Y.c):=keepC A2 (by go_simp);have lb_w11:=World.block_lt_of_cell? _ _ b0_w11;simp only at lb_w11;have nb_w11:¬w.heap.size=w11.heap.size:=(by omega);have ub_w11:¬w11.heap.size=w.heap.size:=(by omega);have mb_w11:w.heap.size<w11.heap.size+1:=(by omega);have lt_w11:=World.block_lt_of_cell? _ _ Az;simp only at lt_w11;have nt_w11:¬w6.heap.size=w11.heap.size:=(by omega);have ut_w11:¬w11.heap.size=w6.heap.size:=(by omega);have mt_w11:w6.heap.size<w11.heap.size+1:=(by omega);have lu_w11:=World.block_lt_of_cell? _ _ u0_w11;simp only at lu_w11;have nu_w11:¬w8.heap.size=w11.heap.size:=(by omega);have uu_w11:¬w11.heap.size=w8.heap.size:=(by omega);have mu_w11:w8.heap.size<w11.heap.size+1:=(by omega);have ly_w11:=World.block_lt_of_cell? _ _ y0_w11;simp only at ly_w11;have ny_w11:¬w10.heap.size=w11.heap.size:=(by omega);have uy_w11:¬w11.heap.size=w10.heap.size:=(by omega);have my_w11:w10.heap.size<w11.heap.size+1:=(by omega);have Ap:=A2.size;(try simp at Ap);(try (refine hv9 (blx A2 rfl (w10.heap.size+1) ?_) (fun hq => ?_);(focus (first|omega|(simp;done)|(simp<;>omega)));obtain⟨Bj,y1_w11,v1_w11,B5,B8⟩:=hq)))
    | (go_at_call 17;refine(AD1.out g c _ (HR11.out.bel (show Below w11.heap.size w11 _ from blw)) (fun a h=>by cases h;first|exact hh11|(simp;omega))).mono ?_;rintro E w12 ⟨rfl,A0⟩;have b0_w12:w12.cell? ⟨w.heap.size,0,none⟩=some (.int .i64 A.ix):=keepC A0 (by go_simp);have b1_w12:w12.cell? ⟨w.heap.size,1,none⟩=some (.int .i64 A.sl):=keepC A0 (by go_simp);have b2_w12:w12.cell? ⟨w.heap.size,2,none⟩=some (.int .i64 A.sh):=keepC A0 (by go_simp);have b3_w12:w12.cell? ⟨w.heap.size,3,none⟩=some (.int .i64 A.po):=keepC A0 (by go_simp);have b4_w12:w12.cell? ⟨w.heap.size,4,none⟩=some (.int .i64 A.wl):=keepC A0 (by go_simp);have b5_w12:w12.cell? ⟨w.heap.size,5,none⟩=some (.int .i64 A.wh):=keepC A0 (by go_simp);have b6_w12:w12.cell? ⟨w.heap.size,6,none⟩=some (.slice A.pa len A.cap):=keepC A0 (by go_simp);have b7_w12:w12.cell? ⟨w.heap.size,7,none⟩=some (.int .i64 A.oi):=keepC A0 (by go_simp);have b8_w12:w12.cell? ⟨w.heap.size,8,none⟩=some (.int .i64 A.ol):=keepC A0 (by go_simp);have B0:w12.cell? ⟨w6.heap.size,0,none⟩=some (.complex .f64 (fl T.a) (fl T.b)):=keepC A0 (by go_simp);have Bh:w12.cell? ⟨w6.heap.size,1,none⟩=some (.int .i64 T.c):=keepC A0 (by go_simp);have u0_w12:w12.cell? ⟨w8.heap.size,0,none⟩=some (.complex .f64 (fl U.a) (fl U.b)):=keepC A0 (by go_simp);have u1_w12:w12.cell? ⟨w8.heap.size,1,none⟩=some (.int .i64 U.c):=keepC A0 (by go_simp);have y0_w12:w12.cell? ⟨w10.heap.size,0,none⟩=some (.complex .f64 (fl Y.a) (fl Y.b)):=keepC A0 (by go_simp);have y1_w12:w12.cell? ⟨w10.heap.size,1,none⟩=some (.int .i64 Y.c):=keepC A0 (by go_simp);have lb_w12:=World.block_lt_of_cell? _ _ b0_w12;simp only at lb_w12;have nb_w12:¬w.heap.size=w12.heap.size:=(by omega);have ub_w12:¬w12.heap.size=w.heap.size:=(by omega);have mb_w12:w.heap.size<w12.heap.size+1:=(by omega);have lt_w12:=World.block_lt_of_cell? _ _ B0;simp only at lt_w12;have nt_w12:¬w6.heap.size=w12.heap.size:=(by omega);have ut_w12:¬w12.heap.size=w6.heap.size:=(by omega);have mt_w12:w6.heap.size<w12.heap.size+1:=(by omega);have lu_w12:=World.block_lt_of_cell? _ _ u0_w12;simp only at lu_w12;have nu_w12:¬w8.heap.size=w12.heap.size:=(by omega);have uu_w12:¬w12.heap.size=w8.heap.size:=(by omega);have mu_w12:w8.heap.size<w12.heap.size+1:=(by omega);have ly_w12:=World.block_lt_of_cell? _ _ y0_w12;simp only at ly_w12;have ny_w12:¬w10.heap.size=w12.heap.size:=(by omega);have uy_w12:¬w12.heap.size=w10.heap.size:=(by omega);have my_w12:w10.heap.size<w12.heap.size+1:=(by omega);have Aq:=A0.size;(try simp at Aq);(try (refine hv9 (blx A0 rfl (w10.heap.size+1) ?_) (fun hq => ?_);(focus (first|omega|(simp;done)|(simp<;>omega)));obtain⟨Bk,y1_w12,v1_w12,B6,B9⟩:=hq));(try (refine hv9 (blx A0 rfl (w11.heap.size) ?_) (fun hq => ?_);(focus (first|omega|(simp;done)|(simp<;>omega)));obtain⟨Bm,y2_w12,v2_w12,B7,Ba⟩:=hq)))
   ))
  all_goals
   first|(refine⟨rfl,(g,c,w10.heap.size+1),rfl,?_⟩)|(refine⟨rfl,(g,c,w11.heap.size),rfl,?_⟩)|(refine⟨rfl,(g,c,w12.heap.size),rfl,?_⟩)
   exact⟨blw,(by go_simp),(by go_simp),(by go_simp),(by go_simp),(by go_simp),(by go_simp),(by go_simp),(by go_simp)⟩
 rintro⟨g,c,B⟩ w20 hR20
 obtain⟨Bb,B1,Bi,u0_w20,u1_w20,y0_w20,y1_w20,B2,Bl⟩:=hR20
 clear CP CP2 TR TR2 AD0 AD1 FW ST OS
 have lt_w20:=World.block_lt_of_cell? _ _ B1
 simp only at lt_w20
 have nt_w20:¬w6.heap.size=w20.heap.size:=(by omega)
 have ut_w20:¬w20.heap.size=w6.heap.size:=(by omega)
 have mt_w20:w6.heap.size<w20.heap.size+1:=(by omega)
 have lu_w20:=World.block_lt_of_cell? _ _ u0_w20
 simp only at lu_w20
 have nu_w20:¬w8.heap.size=w20.heap.size:=(by omega)
 have uu_w20:¬w20.heap.size=w8.heap.size:=(by omega)
 have mu_w20:w8.heap.size<w20.heap.size+1:=(by omega)
 have ly_w20:=World.block_lt_of_cell? _ _ y0_w20
 simp only at ly_w20
 have ny_w20:¬w10.heap.size=w20.heap.size:=(by omega)
 have uy_w20:¬w20.heap.size=w10.heap.size:=(by omega)
 have my_w20:w10.heap.size<w20.heap.size+1:=(by omega)
 have lz_w20:=World.block_lt_of_cell? _ _ B2
 simp only at lz_w20
 have nz_w20:¬B=w20.heap.size:=(by omega)
 have uz_w20:¬w20.heap.size=B:=(by omega)
 have mz_w20:B<w20.heap.size+1:=(by omega)
 have eX:timesM Z.a Z.b Z.c T.a T.b T.c=ti Z T:=by unfold ti;rfl
 have eV:timesM Y.a Y.b Y.c U.a U.b U.c=ti Y U:=by unfold ti;rfl
 have TX:=fun w=>Times_any Z.a Z.b Z.c T.a T.b T.c w fZ.f1 fZ.f2 fT.f1 fT.f2
 have TV:=fun w=>Times_any Y.a Y.b Y.c U.a U.b U.c w fY.f1 fY.f2 fU.f1 fU.f2
 rw[eX,out_quad]at TX
 rw[eV,out_quad]at TV
 have fX:=fine_ti Z T
 have fV:=fine_ti Y U
 generalize ti Z T=X at *
 generalize ti Y U=V at *
 have MT:=Lib.hid (fun w h=>Meets_yes (X:=X) (Z:=V) fX fV h w)
 have CL:=Lib.hid CL
 have TX:=Lib.hid TX
 have TV:=Lib.hid TV
 clear eX eV fX fV fT fU fY fZ hw1 hw2 hT hU hY hZ
 generalize hqT:T.q=qT
 have HQT:=Lib.hid hqT
 clear hqT
 generalize hqU:U.q=qU
 have HQU:=Lib.hid hqU
 clear hqU
 generalize hqY:Y.q=qY
 have HQY:=Lib.hid hqY
 clear hqY
 generalize hqZ:Z.q=qZ
 have HQZ:=Lib.hid hqZ
 clear hqZ
 by_cases cT:qT=0
 case neg =>
  have c2:(qT != 0)=true:=by simpa using cT
  go_wp2
  refine bodyPost_ret (by simp[results,Tryz.results4,go_sem, *];first|done|rfl) rfl ?_
  exact⟨rfl,blw⟩
 subst cT
 by_cases cU:qU=0
 case neg =>
  have c2:(qU != 0)=true:=by simpa using cU
  go_wp2
  refine bodyPost_ret (by simp[results,Tryz.results4,go_sem, *];first|done|rfl) rfl ?_
  exact⟨rfl,blw⟩
 subst cU
 by_cases cY:qY=0
 case neg =>
  have c2:(qY != 0)=true:=by simpa using cY
  go_wp2
  refine bodyPost_ret (by simp[results,Tryz.results4,go_sem, *];first|done|rfl) rfl ?_
  exact⟨rfl,blw⟩
 subst cY
 by_cases cZ:qZ=0
 case neg =>
  have c2:(qZ != 0)=true:=by simpa using cZ
  go_wp2
  refine bodyPost_ret (by simp[results,Tryz.results4,go_sem, *];first|done|rfl) rfl ?_
  exact⟨rfl,blw⟩
 subst cZ
 go_wp2_with fail
 refine(TX.out _).mono ?_
 rintro E w21 ⟨rfl,A3⟩
 have u0_w21:w21.cell? ⟨w8.heap.size,0,none⟩=some (.complex .f64 (fl U.a) (fl U.b)):=keepC A3 (by go_simp)
 have u1_w21:w21.cell? ⟨w8.heap.size,1,none⟩=some (.int .i64 U.c):=keepC A3 (by go_simp)
 have y0_w21:w21.cell? ⟨w10.heap.size,0,none⟩=some (.complex .f64 (fl Y.a) (fl Y.b)):=keepC A3 (by go_simp)
 have y1_w21:w21.cell? ⟨w10.heap.size,1,none⟩=some (.int .i64 Y.c):=keepC A3 (by go_simp)
 have lu_w21:=World.block_lt_of_cell? _ _ u0_w21
 simp only at lu_w21
 have nu_w21:¬w8.heap.size=w21.heap.size:=(by omega)
 have uu_w21:¬w21.heap.size=w8.heap.size:=(by omega)
 have mu_w21:w8.heap.size<w21.heap.size+1:=(by omega)
 have ly_w21:=World.block_lt_of_cell? _ _ y0_w21
 simp only at ly_w21
 have ny_w21:¬w10.heap.size=w21.heap.size:=(by omega)
 have uy_w21:¬w21.heap.size=w10.heap.size:=(by omega)
 have my_w21:w10.heap.size<w21.heap.size+1:=(by omega)
 go_wp2_with fail
 refine(TV.out _).mono ?_
 rintro E w22 ⟨rfl,A7⟩
 have x0_w22:w22.cell? ⟨w21.heap.size,0,none⟩=some (.complex .f64 (fl X.a) (fl X.b)):=keepC A7 (by go_simp)
 have x1_w22:w22.cell? ⟨w21.heap.size,1,none⟩=some (.int .i64 X.c):=keepC A7 (by go_simp)
 have lx_w22:=World.block_lt_of_cell? _ _ x0_w22
 simp only at lx_w22
 have nx_w22:¬w21.heap.size=w22.heap.size:=(by omega)
 have ux_w22:¬w22.heap.size=w21.heap.size:=(by omega)
 have mx_w22:w21.heap.size<w22.heap.size+1:=(by omega)
 (try clear u0_w21 u1_w21 y0_w21 y1_w21 lu_w21 nu_w21 uu_w21 mu_w21 ly_w21 ny_w21 uy_w21 my_w21)
 generalize hqX:X.q=qX
 by_cases cX:qX=0
 case neg =>
  have c2:(qX != 0)=true:=by simpa using cX
  clear hqX
  go_wp2
  refine bodyPost_ret (by simp[results,Tryz.results4,go_sem, *];first|done|rfl) rfl ?_
  exact⟨rfl,blw⟩
 subst cX
 have HQX:=Lib.hid hqX
 clear hqX
 generalize hqV:V.q=qV
 by_cases cV:qV=0
 case neg =>
  have c2:(qV != 0)=true:=by simpa using cV
  clear hqV
  go_wp2
  refine bodyPost_ret (by simp[results,Tryz.results4,go_sem, *];first|done|rfl) rfl ?_
  exact⟨rfl,blw⟩
 subst cV
 have HQV:=Lib.hid hqV
 clear hqV
 have HC:=Lib.hid (CL.out HQT.out HQU.out HQY.out HQZ.out HQX.out HQV.out)
 go_wp2_with fail
 refine(MT.out _ HC.out).mono ?_
 rintro E w23 ⟨rfl,Bc⟩
 go_wp2
 refine bodyPost_ret (by simp[results,Tryz.results4,go_sem, *];first|done|rfl) rfl ?_
 exact⟨rfl,blw⟩
end Go.Proofs.YtllpncmpofhgmaaGreat
