/- TopTimeReversed: the walk (gen_timerev.py). -/
import Derived.Test.YtllpncmpofhgmaaGreatTopBase
import Derived.Test.YtllpncmpofhgmaaGreatKBack
namespace Go.Proofs.YtllpncmpofhgmaaGreat
open Go Go.Sort Go.RowKit
def HidL (A:Ask) (k:Nat):Prop:=∀(j:Nat) b,j<k→A.ls[j]?=some b→b.lo=0
theorem hidl_zero (A:Ask):HidL A 0:=fun j _ hj=>absurd hj (by omega)
theorem hidl_next {A:Ask}{k:Nat}{b:Box} (h:HidL A k) (hb:A.ls[k]?=some b) (c:b.lo=0):HidL A (k+1):=fun j x hj hx=>by
 by_cases e:j=k
 ·subst e;rw[hb]at hx;cases hx;exact c
 ·exact h j x (by omega) hx
theorem hidl_all {A:Ask} (h:HidL A A.ls.length):∀b∈A.ls,b.lo=0:=fun b hb=>by
 obtain⟨j,hj,e⟩:=List.getElem_of_mem hb
 exact h j b hj (by rw[← e];exact List.getElem?_eq_getElem hj)
set_option maxHeartbeats 4000000 in
theorem lossless_any (A:Ask) (hn:A.ls.length≤42) (w:World) (hr:Row A.pa A.ls w) :
  Calls Tryz.prog 8 #[A.val] w fun E w'=>∃t:Bool,E = .returned (.bool t)∧(t=true→∀b∈A.ls,b.lo=0)∧Below w.heap.size w w':=by
 have HA:=Lib.hid (fun h=>hidl_all (A:=A) h)
 unfold Ask.val
 generalize A.pa=pa at *
 go_enter Tryz.func8,Tryz.ntmps8
 go_wp2_with fail
 go_loopw [3] (fun i wr=>∃k:Nat,k≤A.ls.length∧i = .int .i64 k∧Below w.heap.size w wr∧w.heap.size<wr.heap.size∧(∀o,wr.cell? ⟨w.heap.size,o,none⟩=(#[.int .i64 A.ix,.int .i64 A.sl,.int .i64 A.sh,.int .i64 A.po,.int .i64 A.wl,.int .i64 A.wh,.slice pa A.ls.length A.cap,.int .i64 A.oi,.int .i64 A.ol]:Array Value)[o]?)∧HidL A k) (fun i _=>A.ls.length-(intOf i).toNat)
 case atStart=>exact⟨0,by omega,rfl,blw,by first|omega|(simp;done)|(simp;omega),fun o=>by go_simp,hidl_zero A⟩
 case round =>
  obtain⟨k,hk,rfl,Ay,Bq,Bp,HF⟩:=hrel
  by_cases hlt:k<A.ls.length
  ·obtain⟨b,hb⟩:∃b,A.ls[k]?=some b:=⟨_,List.getElem?_eq_getElem hlt⟩
   obtain⟨a,ha,hal,hE⟩:=hr.get k b hb
   subst ha
   have hE:=boxAt.bel hE Ay hal
   obtain⟨E1,E2,E3,E4,E5⟩:=hE
   have hal2:(a.add (k*5)).block<wr.heap.size:=by have:=Ay.size;omega
   have hlt2:(k:Int)<A.ls.length:=by omega
   have HN:=Lib.hid (fun c=>hidl_next HF hb c)
   clear HF hb hr
   by_cases c:b.lo=0
   ·have HC:=Lib.hid c
    rw[c]at E5
    clear c
    go_wp2_with fail
    go_roundw
    case rel=>exact⟨k+1,by omega,by first|(simp;done)|(simp;omega),blw,by first|omega|(simp;done)|(simp;omega),fun o=>by go_simp,HN.out HC.out⟩
    case measure=>simp[intOf];omega
   ·have c2:(b.lo != 0)=true:=by simpa using c
    repeat' (first|go_values|go_skip|go_guarded|go_step|go_upon|(simp only[];go_simp))
    go_ret
    exact⟨false,rfl,fun h=>absurd h Bool.false_ne_true,blw⟩
  ·obtain rfl:k=A.ls.length:=by omega
   have hlt2:¬(A.ls.length:Int)<A.ls.length:=by omega
   have HF:=Lib.hid HF
   repeat' (first|go_values|go_skip|go_guarded|go_step|go_upon|(simp only[];go_simp))
   go_ret
   exact⟨_,rfl,fun _=>HA.out HF.out,blw⟩
set_option maxHeartbeats 8000000 in
theorem timeRev_of (ST:StackedYes) (A:Ask) (hp:A.pa=none→A.ls.length=0∧A.cap=0) (w:World) (hr:Row A.pa A.ls w) :
  Calls Tryz.prog 3 #[A.val] w fun e w'=>e = .returned (.bool true)∧Below w.heap.size w w':=by
 have ST:=Lib.hid ST
 have FW:=Lib.hid (fun w=>Few_any A w)
 by_cases hn:A.ls.length≤42
 case neg =>
  have HN:=Lib.hid hn
  clear hr hp hn
  unfold Ask.val at FW ⊢
  generalize A.ls.length=len at *
  go_enter Tryz.func3,Tryz.ntmps3
  go_wp2_with fail
  refine(ST.out _).mono ?_
  rintro e w1 ⟨rfl,A5⟩
  have Ae:=A5.size
  (try simp at Ae)
  have B2:=bl5 A5 (w.heap.size)
  go_wp2_with fail
  refine(FW.out _).mono ?_
  rintro e w2 ⟨t,rfl,ht,A6⟩
  obtain rfl:t=false:=by cases t;· rfl
                         ·exact absurd (ht rfl) HN.out
  have Af:=A6.size
  (try simp at Af)
  have B3:=bl5 A6 (w.heap.size)
  repeat' (first|go_values|go_skip|go_guarded|go_step|go_upon|(simp only[];go_simp))
  refine bodyPost_ret (by simp[results,Tryz.results3,go_sem, *];first|done|rfl) rfl ?_
  exact⟨rfl,blw⟩
 have LL:=Lib.hid (fun w hr=>lossless_any A hn w hr)
 have CP:=Lib.hid (fun w hr=>CopyAsk_any A hp (by omega) w hr)
 have OS:=Lib.hid (fun g c w hr=>OtherSide_any A g c w hr)
 have HR:=Lib.hid hr
 clear hr hp hn
 unfold zeroAsk at OS
 unfold Ask.mv at CP OS
 unfold other at OS
 unfold Ask.val at CP FW OS LL ⊢
 simp only[List.length_reverse]at CP OS
 generalize hlen:A.ls.length=len at *
 have HLEN:=Lib.hid hlen
 clear hlen
 go_enter Tryz.func3,Tryz.ntmps3
 go_wp2_with fail
 refine(ST.out _).mono ?_
 rintro e w1 ⟨rfl,A5⟩
 have Ae:=A5.size
 (try simp at Ae)
 have B2:=bl5 A5 (w.heap.size)
 go_wp2_with fail
 refine(FW.out _).mono ?_
 rintro e w2 ⟨t,rfl,ht,A6⟩
 clear ht
 have Af:=A6.size
 (try simp at Af)
 have B3:=bl5 A6 (w.heap.size)
 cases t
 ·repeat' (first|go_values|go_skip|go_guarded|go_step|go_upon|(simp only[];go_simp))
  refine bodyPost_ret (by simp[results,Tryz.results3,go_sem, *];first|done|rfl) rfl ?_
  exact⟨rfl,blw⟩
 go_wp2_with fail
 refine(LL.out _ (HR.out.bel blw)).mono ?_
 rintro e w3 ⟨t,rfl,ht,Av⟩
 have HNL:=Lib.hid ht
 clear ht
 have Bd:=Av.size
 (try simp at Bd)
 have Bl:=bl5 Av (w.heap.size)
 cases t
 ·repeat' (first|go_values|go_skip|go_guarded|go_step|go_upon|(simp only[];go_simp))
  refine bodyPost_ret (by simp[results,Tryz.results3,go_sem, *];first|done|rfl) rfl ?_
  exact⟨rfl,blw⟩
 go_wp2_with fail
 refine(CP.out _ (HR.out.bel blw)).mono ?_
 rintro e w4 ⟨g4,c4,rfl,hr4,hl4,hh4,Aw⟩
 have Be:=Aw.size
 (try simp at Be)
 have Bm:=bl5 Aw (w.heap.size)
 go_wp2_with fail
 refine(OS.out g4 c4 _ hr4).mono ?_
 rintro e w5 ⟨hE,Ax⟩
 clear hr4
 have Bf:=Ax.size
 (try simp at Bf)
 have Bn:=bl5 Ax (w.heap.size)
 rcases hE with⟨q,hq,rfl⟩|⟨oA,oq,p,c5,rfl,hr5,hl5,hh5⟩
 ·repeat' (first|go_values|go_skip|go_guarded|go_step|go_upon|(simp only[];go_simp))
  refine bodyPost_ret (by simp[results,Tryz.results3,go_sem, *];first|done|rfl) rfl ?_
  exact⟨rfl,blw⟩
 have CL:=rev_meet oA (HNL.out (by trivial)) oq (some p) c5
 have RR:=Lib.hid (fun g c (w:World) hr hpa=>Reflected_any (A.mv (some ⟨g,0,none⟩) c) (ok_mv oA _ _) w hr hpa)
 have TR:=Lib.hid (fun g c (w:World) hr hpa=>Transmitted_any (A.mv (some ⟨g,0,none⟩) c) (ok_mv oA _ _) w hr hpa)
 have fR:=fine_amp A false
 have fT:=fine_amp A true
 have eR:∀g c,ampR (A.mv (some ⟨g,0,none⟩) c) false=ampR A false:=fun g c=>amp_mv A (some ⟨g,0,none⟩) c false
 have eT:∀g c,ampR (A.mv (some ⟨g,0,none⟩) c) true=ampR A true:=fun g c=>amp_mv A (some ⟨g,0,none⟩) c true
 simp only[eR]at RR
 simp only[eT]at TR
 clear eR eT
 unfold Ask.mv Ask.val at RR TR
 simp only at RR TR
 rw[out_quad,HLEN.out]at RR TR
 generalize ampR A false=R at *
 generalize ampR A true=T at *
 go_wp2_with fail
 refine(CP.out _ (HR.out.bel blw)).mono ?_
 rintro e w6 ⟨g6,c6,rfl,hr6,hl6,hh6,Ab⟩
 have Bg:=Ab.size
 (try simp at Bg)
 have B4:=bl5 Ab (w.heap.size)
 have Ap:=bl5 Ab (w5.heap.size)
 go_wp2_with fail
 refine(RR.out g6 c6 _ hr6 (fun a h=>by cases h;exact hh6)).mono ?_
 rintro e w7 ⟨rfl,Ac⟩
 clear hr6
 have Bh:=Ac.size
 (try simp at Bh)
 have B5:=bl5 Ac (w.heap.size)
 have Aq:=bl5 Ac (w5.heap.size)
 go_wp2_with fail
 refine(CP.out _ (HR.out.bel blw)).mono ?_
 rintro e w8 ⟨g8,c8,rfl,hr8,hl8,hh8,A8⟩
 have Bi:=A8.size
 (try simp at Bi)
 have B6:=bl5 A8 (w.heap.size)
 have Ar:=bl5 A8 (w5.heap.size)
 have As:=bl5 A8 (w7.heap.size)
 go_wp2_with fail
 refine(TR.out g8 c8 _ hr8 (fun a h=>by cases h;exact hh8)).mono ?_
 rintro e w9 ⟨rfl,Ad⟩
 clear hr8
 have Bj:=Ad.size
 (try simp at Bj)
 have At:=bl5 Ad (w5.heap.size)
 have Au:=bl5 Ad (w7.heap.size)
 have oO:=other_ok oA oq (some p) c5
 have CP2:=Lib.hid (fun(w:World) hr=>CopyAsk_any (other A (some p) c5) (fun h=>by cases h) (by show A.ls.reverse.length≤1000;rw[List.length_reverse];have:=oA.len;omega) w hr)
 have RR2:=Lib.hid (fun g c (w:World) hr hpa=>Reflected_any ((other A (some p) c5).mv (some ⟨g,0,none⟩) c) (ok_mv oO _ _) w hr hpa)
 have fS:=fine_amp (other A (some p) c5) false
 have eS:∀g c,ampR ((other A (some p) c5).mv (some ⟨g,0,none⟩) c) false=ampR (other A (some p) c5) false:=fun g c=>amp_mv (other A (some p) c5) (some ⟨g,0,none⟩) c false
 simp only[eS]at RR2
 clear eS
 generalize ampR (other A (some p) c5) false=S at *
 unfold Ask.mv other Ask.val at RR2 CP2
 simp only[List.length_reverse]at RR2 CP2
 rw[HLEN.out]at CP2
 rw[out_quad,HLEN.out]at RR2
 go_wp2_with fail
 refine(CP2.out _ (hr5.bel (show Below w5.heap.size w5 _ from blw))).mono ?_
 rintro e w10 ⟨g10,c10,rfl,hr10,hl10,hh10,A7⟩
 have B0:=A7.size
 (try simp at B0)
 have Ag:=bl5 A7 (w7.heap.size)
 have Ah:=bl5 A7 (w9.heap.size)
 go_wp2_with fail
 refine(RR2.out g10 c10 _ hr10 (fun a h=>by cases h;exact hh10)).mono ?_
 rintro e w11 ⟨rfl,A0⟩
 clear hr10
 have B1:=A0.size
 (try simp at B1)
 have Ai:=bl5 A0 (w7.heap.size)
 have Aj:=bl5 A0 (w9.heap.size)
 have r0_w11:w11.cell? ⟨w7.heap.size,0,none⟩=some (.complex .f64 (fl R.a) (fl R.b)):=keepC A0 (by go_simp)
 have r1_w11:w11.cell? ⟨w7.heap.size,1,none⟩=some (.int .i64 R.c):=keepC A0 (by go_simp)
 have B9:w11.cell? ⟨w9.heap.size,0,none⟩=some (.complex .f64 (fl T.a) (fl T.b)):=keepC A0 (by go_simp)
 have Bo:w11.cell? ⟨w9.heap.size,1,none⟩=some (.int .i64 T.c):=keepC A0 (by go_simp)
 have lr_w11:=World.block_lt_of_cell? _ _ r0_w11
 simp only at lr_w11
 have nr_w11:¬w7.heap.size=w11.heap.size:=(by omega)
 have ur_w11:¬w11.heap.size=w7.heap.size:=(by omega)
 have mr_w11:w7.heap.size<w11.heap.size+1:=(by omega)
 have lt_w11:=World.block_lt_of_cell? _ _ B9
 simp only at lt_w11
 have nt_w11:¬w9.heap.size=w11.heap.size:=(by omega)
 have ut_w11:¬w11.heap.size=w9.heap.size:=(by omega)
 have mt_w11:w9.heap.size<w11.heap.size+1:=(by omega)
 (try clear B4 Ap B5 Aq B6 Ar As At Au Ag Ah Ai Aj)
 clear CP CP2 RR RR2 TR FW ST OS LL HR HNL hr5
 have TC:=fun w=>Conj_any T.a T.b T.c w fT.f1 fT.f2
 have RC:=fun w=>Conj_any R.a R.b R.c w fR.f1 fR.f2
 have e1:conjM T.a T.b T.c=cj T:=by unfold cj;rfl
 have e2:conjM R.a R.b R.c=cj R:=by unfold cj;rfl
 rw[e1,out_quad]at TC
 rw[e2,out_quad]at RC
 have fC:=fine_cj T
 have fD:=fine_cj R
 have qC:=cj_good fT
 have qD:=cj_good fR
 rw[qC]at TC
 rw[qD]at RC
 clear e1 e2 qC qD
 generalize cj T=C at *
 generalize cj R=D at *
 have TX:=fun w=>Times_any S.a S.b S.c C.a C.b C.c w fS.f1 fS.f2 fC.f1 fC.f2
 have TV:=fun w=>Times_any D.a D.b D.c T.a T.b T.c w fD.f1 fD.f2 fT.f1 fT.f2
 have e1:timesM S.a S.b S.c C.a C.b C.c=ti S C:=by unfold ti;rfl
 have e2:timesM D.a D.b D.c T.a T.b T.c=ti D T:=by unfold ti;rfl
 rw[e1,out_quad]at TX
 rw[e2,out_quad]at TV
 have fX:=fine_ti S C
 have fV:=fine_ti D T
 clear e1 e2
 generalize ti S C=X at *
 generalize ti D T=V at *
 have TU:=fun w=>Turned_any V.a V.b V.c 2 w fV.f1 fV.f2
 have e1:turnedM V.a V.b V.c 2=ng V:=by unfold ng;rfl
 rw[e1,out_quad]at TU
 have qU:=ng_q fV
 have fU:=fine_ng fV
 rw[qU]at TU
 clear e1 qU
 generalize ng V=U at *
 have MT:=Lib.hid (fun w h=>Meets_yes (X:=X) (Z:=U) fX fU h w)
 have CL:=Lib.hid CL
 have TC:=Lib.hid TC
 have RC:=Lib.hid RC
 have TX:=Lib.hid TX
 have TV:=Lib.hid TV
 have TU:=Lib.hid TU
 clear fX fU fV fC fD fR fT fS
 generalize hqR:R.q=qR
 have HQR:=Lib.hid hqR
 clear hqR
 generalize hqT:T.q=qT
 have HQT:=Lib.hid hqT
 clear hqT
 generalize hqS:S.q=qS
 have HQS:=Lib.hid hqS
 clear hqS
 by_cases cR:qR=0
 case neg =>
  have c2:(qR != 0)=true:=by simpa using cR
  go_wp2
  refine bodyPost_ret (by simp[results,Tryz.results3,go_sem, *];first|done|rfl) rfl ?_
  exact⟨rfl,blw⟩
 subst cR
 by_cases cT:qT=0
 case neg =>
  have c2:(qT != 0)=true:=by simpa using cT
  go_wp2
  refine bodyPost_ret (by simp[results,Tryz.results3,go_sem, *];first|done|rfl) rfl ?_
  exact⟨rfl,blw⟩
 subst cT
 by_cases cS:qS=0
 case neg =>
  have c2:(qS != 0)=true:=by simpa using cS
  go_wp2
  refine bodyPost_ret (by simp[results,Tryz.results3,go_sem, *];first|done|rfl) rfl ?_
  exact⟨rfl,blw⟩
 subst cS
 go_wp2_with fail
 refine(TC.out _).mono ?_
 rintro E w12 ⟨rfl,A1⟩
 have r0_w12:w12.cell? ⟨w7.heap.size,0,none⟩=some (.complex .f64 (fl R.a) (fl R.b)):=keepC A1 (by go_simp)
 have r1_w12:w12.cell? ⟨w7.heap.size,1,none⟩=some (.int .i64 R.c):=keepC A1 (by go_simp)
 have Am:w12.cell? ⟨w9.heap.size,0,none⟩=some (.complex .f64 (fl T.a) (fl T.b)):=keepC A1 (by go_simp)
 have Ba:w12.cell? ⟨w9.heap.size,1,none⟩=some (.int .i64 T.c):=keepC A1 (by go_simp)
 have Ak:w12.cell? ⟨w11.heap.size,0,none⟩=some (.complex .f64 (fl S.a) (fl S.b)):=keepC A1 (by go_simp)
 have B7:w12.cell? ⟨w11.heap.size,1,none⟩=some (.int .i64 S.c):=keepC A1 (by go_simp)
 have lr_w12:=World.block_lt_of_cell? _ _ r0_w12
 simp only at lr_w12
 have nr_w12:¬w7.heap.size=w12.heap.size:=(by omega)
 have ur_w12:¬w12.heap.size=w7.heap.size:=(by omega)
 have mr_w12:w7.heap.size<w12.heap.size+1:=(by omega)
 have lt_w12:=World.block_lt_of_cell? _ _ Am
 simp only at lt_w12
 have nt_w12:¬w9.heap.size=w12.heap.size:=(by omega)
 have ut_w12:¬w12.heap.size=w9.heap.size:=(by omega)
 have mt_w12:w9.heap.size<w12.heap.size+1:=(by omega)
 have ls_w12:=World.block_lt_of_cell? _ _ Ak
 simp only at ls_w12
 have ns_w12:¬w11.heap.size=w12.heap.size:=(by omega)
 have us_w12:¬w12.heap.size=w11.heap.size:=(by omega)
 have ms_w12:w11.heap.size<w12.heap.size+1:=(by omega)
 go_wp2_with fail
 refine(RC.out _).mono ?_
 rintro E w13 ⟨rfl,A2⟩
 have An:w13.cell? ⟨w9.heap.size,0,none⟩=some (.complex .f64 (fl T.a) (fl T.b)):=keepC A2 (by go_simp)
 have Bb:w13.cell? ⟨w9.heap.size,1,none⟩=some (.int .i64 T.c):=keepC A2 (by go_simp)
 have Al:w13.cell? ⟨w11.heap.size,0,none⟩=some (.complex .f64 (fl S.a) (fl S.b)):=keepC A2 (by go_simp)
 have B8:w13.cell? ⟨w11.heap.size,1,none⟩=some (.int .i64 S.c):=keepC A2 (by go_simp)
 have A9:w13.cell? ⟨w12.heap.size,0,none⟩=some (.complex .f64 (fl C.a) (fl C.b)):=keepC A2 (by go_simp)
 have Az:w13.cell? ⟨w12.heap.size,1,none⟩=some (.int .i64 C.c):=keepC A2 (by go_simp)
 have lt_w13:=World.block_lt_of_cell? _ _ An
 simp only at lt_w13
 have nt_w13:¬w9.heap.size=w13.heap.size:=(by omega)
 have ut_w13:¬w13.heap.size=w9.heap.size:=(by omega)
 have mt_w13:w9.heap.size<w13.heap.size+1:=(by omega)
 have ls_w13:=World.block_lt_of_cell? _ _ Al
 simp only at ls_w13
 have ns_w13:¬w11.heap.size=w13.heap.size:=(by omega)
 have us_w13:¬w13.heap.size=w11.heap.size:=(by omega)
 have ms_w13:w11.heap.size<w13.heap.size+1:=(by omega)
 have lc_w13:=World.block_lt_of_cell? _ _ A9
 simp only at lc_w13
 have nc_w13:¬w12.heap.size=w13.heap.size:=(by omega)
 have uc_w13:¬w13.heap.size=w12.heap.size:=(by omega)
 have mc_w13:w12.heap.size<w13.heap.size+1:=(by omega)
 (try clear r0_w12 r1_w12 Am Ba Ak B7 lr_w12 nr_w12 ur_w12 mr_w12 lt_w12 nt_w12 ut_w12 mt_w12 ls_w12 ns_w12 us_w12 ms_w12)
 go_wp2_with fail
 refine(TX.out _).mono ?_
 rintro E w14 ⟨rfl,A4⟩
 have Ao:w14.cell? ⟨w9.heap.size,0,none⟩=some (.complex .f64 (fl T.a) (fl T.b)):=keepC A4 (by go_simp)
 have Bc:w14.cell? ⟨w9.heap.size,1,none⟩=some (.int .i64 T.c):=keepC A4 (by go_simp)
 have d0_w14:w14.cell? ⟨w13.heap.size,0,none⟩=some (.complex .f64 (fl D.a) (fl D.b)):=keepC A4 (by go_simp)
 have d1_w14:w14.cell? ⟨w13.heap.size,1,none⟩=some (.int .i64 D.c):=keepC A4 (by go_simp)
 have lt_w14:=World.block_lt_of_cell? _ _ Ao
 simp only at lt_w14
 have nt_w14:¬w9.heap.size=w14.heap.size:=(by omega)
 have ut_w14:¬w14.heap.size=w9.heap.size:=(by omega)
 have mt_w14:w9.heap.size<w14.heap.size+1:=(by omega)
 have ld_w14:=World.block_lt_of_cell? _ _ d0_w14
 simp only at ld_w14
 have nd_w14:¬w13.heap.size=w14.heap.size:=(by omega)
 have ud_w14:¬w14.heap.size=w13.heap.size:=(by omega)
 have md_w14:w13.heap.size<w14.heap.size+1:=(by omega)
 (try clear An Bb Al B8 A9 Az lt_w13 nt_w13 ut_w13 mt_w13 ls_w13 ns_w13 us_w13 ms_w13 lc_w13 nc_w13 uc_w13 mc_w13)
 go_wp2_with fail
 refine(TV.out _).mono ?_
 rintro E w15 ⟨rfl,Aa⟩
 have x0_w15:w15.cell? ⟨w14.heap.size,0,none⟩=some (.complex .f64 (fl X.a) (fl X.b)):=keepC Aa (by go_simp)
 have x1_w15:w15.cell? ⟨w14.heap.size,1,none⟩=some (.int .i64 X.c):=keepC Aa (by go_simp)
 have lx_w15:=World.block_lt_of_cell? _ _ x0_w15
 simp only at lx_w15
 have nx_w15:¬w14.heap.size=w15.heap.size:=(by omega)
 have ux_w15:¬w15.heap.size=w14.heap.size:=(by omega)
 have mx_w15:w14.heap.size<w15.heap.size+1:=(by omega)
 (try clear Ao Bc d0_w14 d1_w14 lt_w14 nt_w14 ut_w14 mt_w14 ld_w14 nd_w14 ud_w14 md_w14)
 generalize hqX:X.q=qX
 have HQX:=Lib.hid hqX
 clear hqX
 by_cases cX:qX=0
 case neg =>
  have c2:(qX != 0)=true:=by simpa using cX
  go_wp2
  refine bodyPost_ret (by simp[results,Tryz.results3,go_sem, *];first|done|rfl) rfl ?_
  exact⟨rfl,blw⟩
 subst cX
 generalize hqV:V.q=qV
 have HQV:=Lib.hid hqV
 clear hqV
 by_cases cV:qV=0
 case neg =>
  have c2:(qV != 0)=true:=by simpa using cV
  go_wp2
  refine bodyPost_ret (by simp[results,Tryz.results3,go_sem, *];first|done|rfl) rfl ?_
  exact⟨rfl,blw⟩
 subst cV
 have HC:=Lib.hid (CL.out HQR.out HQT.out HQS.out HQX.out HQV.out)
 have hge:w.heap.size≤w15.heap.size:=(show Below w.heap.size w w15 from blw).size
 go_wp2_with fail
 refine(TU.out _).mono ?_
 rintro E w16 ⟨rfl,A3⟩
 have x0_w16:w16.cell? ⟨w14.heap.size,0,none⟩=some (.complex .f64 (fl X.a) (fl X.b)):=keepC A3 (by go_simp)
 have x1_w16:w16.cell? ⟨w14.heap.size,1,none⟩=some (.int .i64 X.c):=keepC A3 (by go_simp)
 have v0_w16:w16.cell? ⟨w15.heap.size,0,none⟩=some (.complex .f64 (fl V.a) (fl V.b)):=keepC A3 (by go_simp)
 have v1_w16:w16.cell? ⟨w15.heap.size,1,none⟩=some (.int .i64 V.c):=keepC A3 (by go_simp)
 have lx_w16:=World.block_lt_of_cell? _ _ x0_w16
 simp only at lx_w16
 have nx_w16:¬w14.heap.size=w16.heap.size:=(by omega)
 have ux_w16:¬w16.heap.size=w14.heap.size:=(by omega)
 have mx_w16:w14.heap.size<w16.heap.size+1:=(by omega)
 have lv_w16:=World.block_lt_of_cell? _ _ v0_w16
 simp only at lv_w16
 have nv_w16:¬w15.heap.size=w16.heap.size:=(by omega)
 have uv_w16:¬w16.heap.size=w15.heap.size:=(by omega)
 have mv_w16:w15.heap.size<w16.heap.size+1:=(by omega)
 have fv_w16:=blf A3 w15.heap.size
 go_wp2_with fail
 refine(MT.out _ HC.out).mono ?_
 rintro E w17 ⟨rfl,Bk⟩
 go_wp2
 refine bodyPost_ret (by simp[results,Tryz.results3,go_sem, *];first|done|rfl) rfl ?_
 exact⟨rfl,blw⟩
end Go.Proofs.YtllpncmpofhgmaaGreat
