/- Joined: Point WithinLaw WithinShr. -/
import Derived.Test.YticobgianbecpaaGreatDoorKShr
namespace Go.Proofs.YticobgianbecpaaGreatDoor
open Go Go.Sort Go.RowKit
theorem mod_fix {n b:Int} (hb:0<b):(if n.tmod b<0 then n.tmod b+b else n.tmod b)=n%b:=by
 have h:=Int.emod_emod_of_dvd n (Int.dvd_refl b)
 have e:=Int.tmod_eq_emod (a:=n) (b:=b)
 have k0:=Int.emod_nonneg n (show b≠0 by omega)
 have k1:=Int.emod_lt_of_pos n hb
 rw[e]
 have ab:(b.natAbs:Int)=b:=by omega
 split at e<;>split<;>simp_all<;>omega
set_option maxHeartbeats 2000000 in
theorem bMod_all (n b:Int) (hb:0<b) (hb1:b≤1000000000) (w:World) :
  Calls Tryz.prog 69 #[.int .i64 n,.int .i64 b] w fun e w'=>e = .returned (.int .i64 (n%b))∧w'=w:=by
 have h0:=Int.emod_nonneg n (show b≠0 by omega)
 have h1:=Int.emod_lt_of_pos n hb
 have e:=mod_fix (n:=n) hb
 have t0:=Int.lt_tmod_of_pos n hb
 have t1:=Int.tmod_lt_of_pos n hb
 have nz:(b==0)=false:=by rw[beq_eq_false_iff_ne];omega
 have nz2:¬b=0:=by omega
 obtain⟨t,ht⟩:∃t,n.tmod b=t:=⟨_,rfl⟩
 rw[ht]at e t0 t1
 obtain⟨r,hr⟩:∃r,n%b=r:=⟨_,rfl⟩
 rw[hr]at e h0 h1 ⊢
 by_cases c:t<0
 ·rw[if_pos c]at e
  have k1:wrap64 (t+b)=r:=by rw[e];exact IntWalk.wrap64_in _ ⟨by omega,by omega⟩
  have k2:IntKind.i64.wrap (t+b)=r:=by rw[e];exact IntWalk.i64_in _ ⟨by omega,by omega⟩
  have w1:wrap64 (n.tmod b)=t:=by rw[ht];exact IntWalk.wrap64_in _ ⟨by omega,by omega⟩
  have w2:IntKind.i64.wrap (n.tmod b)=t:=by rw[ht];exact IntWalk.i64_in _ ⟨by omega,by omega⟩
  clear hr e
  go_enter Tryz.func69,Tryz.ntmps69
  go_wp2
  go_ret
  exact⟨rfl,rfl⟩
 ·rw[if_neg c]at e
  subst e
  have w1:wrap64 (n.tmod b)=t:=by rw[ht];exact IntWalk.wrap64_in _ ⟨by omega,by omega⟩
  have w2:IntKind.i64.wrap (n.tmod b)=t:=by rw[ht];exact IntWalk.i64_in _ ⟨by omega,by omega⟩
  clear hr
  go_enter Tryz.func69,Tryz.ntmps69
  go_wp2
  go_ret
  exact⟨rfl,rfl⟩
@[irreducible] def ptN (lo hi k:Int):Int:=lo+k%(hi-lo+1)
theorem ptN_in {lo hi:Int} (k:Int) (h:lo≤hi):lo≤ptN lo hi k∧ptN lo hi k≤hi:=by
 have h0:=Int.emod_nonneg k (show hi-lo+1≠0 by omega)
 have h1:=Int.emod_lt_of_pos k (show 0<hi-lo+1 by omega)
 unfold ptN
 omega
set_option maxHeartbeats 4000000 in
theorem point_any (lo hi k:Int) (h0:0≤lo) (h1:lo≤hi) (h2:hi≤100000000) (w:World) :
  Calls Tryz.prog 19 #[.agg #[.int .i64 lo,.int .i64 hi],.int .i64 k] w fun e w'=>e = .returned (.agg #[.int .i64 (ptN lo hi k),.int .i64 (ptN lo hi k)])∧Below w.heap.size w w':=by
 have M:=Lib.hid (fun w=>bMod_all k (hi-lo+1) (by omega) (by omega) w)
 have pb:=ptN_in k h1
 unfold ptN at *
 have q0:=Int.emod_nonneg k (show hi-lo+1≠0 by omega)
 have q1:=Int.emod_lt_of_pos k (show 0<hi-lo+1 by omega)
 generalize k%(hi-lo+1)=r at *
 have a1:wrap64 (hi-lo)=hi-lo:=IntWalk.wrap64_in _ ⟨by omega,by omega⟩
 have a2:IntKind.i64.wrap (hi-lo)=hi-lo:=IntWalk.i64_in _ ⟨by omega,by omega⟩
 have a3:wrap64 (hi-lo+1)=hi-lo+1:=IntWalk.wrap64_in _ ⟨by omega,by omega⟩
 have a4:IntKind.i64.wrap (hi-lo+1)=hi-lo+1:=IntWalk.i64_in _ ⟨by omega,by omega⟩
 have a5:wrap64 (lo+r)=lo+r:=IntWalk.wrap64_in _ ⟨by omega,by omega⟩
 have a6:IntKind.i64.wrap (lo+r)=lo+r:=IntWalk.i64_in _ ⟨by omega,by omega⟩
 clear h0 h1 h2 pb q0 q1
 go_enter Tryz.func19,Tryz.ntmps19
 go_wp2_with fail
 refine calm_all (by kernel_rfl) (by kernel_rfl) fun hG => ?_
 have A4:=hG (w.heap.size) lto
 have A1:=hG (w.heap.size+1) lto
 clear hG
 repeat (go_big_quiet_step (first|(go_at_call 69;with_reducible exact calm_same M.out)))
 refine wpQuiet_nil ?_
 intro w1 A0
 clear A4 A1
 have A2:=A0.size
 (try simp at A2)
 have A5:=bl5 A0 (w.heap.size)
 have A3:=bl5 A0 (w.heap.size+1)
 repeat' (first|go_values|go_skip|go_guarded|go_step|go_upon|(simp only[];go_simp))
 refine bodyPost_ret (by simp[results,Tryz.results19,go_sem, *];first|done|rfl) rfl ?_
 exact⟨rfl,blw⟩
end Go.Proofs.YticobgianbecpaaGreatDoor
namespace Go.Proofs.YticobgianbecpaaGreatDoor
theorem shT0_zero {T Y Z:Res} (h:Z.a-Z.c≤0):shT0 T Y Z=0:=by
 unfold shT0
 have:pos (Z.a-Z.c)=0:=by unfold pos;split<;>omega
 rw[this,Int.zero_mul]
 have:dn 0 (Y.a+Y.c)=0:=by unfold dn;simp
 rw[this]
 unfold cutO
 rfl
theorem shT1_nn {T Y Z:Res} (hT:Fine T) (h0:0<Y.a-Y.c):0≤shT1 T Y Z:=by
 unfold shT1
 have e:=(en_small hT.right).2.1
 have p:=(pos_ge (Z.a+Z.c)).2
 exact(cutO_bd (up_nn (Int.mul_nonneg p e) (by omega))).1
theorem tran_same {Y Z T Y' Z' T':Res}{y z t:Nat→Cq} (hY:In Y y) (hZ:In Z z) (hT:In T t) (h0:0<Y.a-Y.c) (hY':In Y' y) (hZ':In Z' z) (hT':In T' t) (h0':0<Y'.a-Y'.c):shT0 T Y Z≤shT1 T' Y' Z':=by
 by_cases c:Z.a-Z.c≤0
 ·rw[shT0_zero c]
  exact shT1_nn hT'.1 h0'
 ·have i:=rint _ _ (show 1≤Z.a-Z.c by omega)
  push_cast at i
  have g:Ev fun n=>z n=(if 0≤(z n).re then z n else zr):=(hZ.re (1/2) (by decide +kernel)).mono fun n h=>by
   have:=h.1
   push_cast at this
   rw[if_pos (by grind)]
  have zp:∀n,0≤(if 0≤(z n).re then z n else zr).re:=fun n=>by
   split
   ·assumption
   ·unfold zr;exact Rat.le_refl
  exact tran_over hY (hZ.congr g) hT h0 zp hY' (hZ'.congr g) hT' h0' zp fun n=>rfl
theorem stop_zero {A:Ask}{P:PA}{b:Box}{p:PL} (hP:P.at A) (hA:0≤A.ix) (h:p.at b) (n0:0≤p.n) (l0:0≤p.l) (hq:(norR 0 A b).q=0) (st:stopR 0 A b=true):∀n,(adN P p n).re=0:=by
 have hn:=(in_nor hP hA h n0 l0 hq).2.2
 unfold stopR at st
 have st':=of_decide_eq_true st
 have:(nsqR 0 A b).a+(nsqR 0 A b).c≤0:=by
  unfold norR at hq
  obtain⟨_,q1,_⟩:=after_val hq
  rw[if_pos st'.1]at q1
  unfold realM at q1
  split at q1
  ·rw[(quad_bad 2).2.2.2]at q1;exact absurd q1 (by decide)
  ·split at q1
   ·rw[(quad_bad 10).2.2.2]at q1;exact absurd q1 (by decide)
   ·rw[if_neg (by omega)]at q1
    split at q1
    ·assumption
    ·rw[(quad_bad 14).2.2.2]at q1;exact absurd q1 (by decide)
 have i:=rint _ _ this
 have p2:=hn.parts.2
 push_cast at i p2
 have v0:(nsN P p).re≤0:=by grind
 have hl:p.l=0:=by rw[← h.l0];exact st'.1
 exact ad_re hl ((no_real n0 hl).2 v0)
theorem in_re0 {Z:Res}{z:Nat→Cq} (h:In Z z) (k:∀n,(z n).re=0):Z.a-Z.c≤0:=by
 refine int_le 1 (by decide) fun d hd _ => ?_
 obtain⟨n,a,_⟩:=(h.re d hd).ex
 rw[k n]at a
 push_cast at a ⊢
 grind
theorem shS_over {s s':Bool}{a b c d:Int} (k1:a≤b) (k2:a≤d) (k3:c≤b) (k4:c≤d) (b0:0≤b) (d0:0≤d) (h:s=true→c=0) (h':s'=true→a=0):Over (shS s a) (shS s b) (shS s' c) (shS s' d):=by
 unfold Over shS
 cases s<;>cases s'<;>simp at h h' ⊢ <;> omega
theorem rest_over {l:Bool}{a b c d t0 t1 u0 u1:Int} (h:Over a b c d) (k:Over t0 t1 u0 u1):Over (shA l b t1) (shA l a t0) (shA l d u1) (shA l c u0):=by
 unfold Over at *
 unfold shA pos
 cases l
 ·simp
 ·simp only[if_true]
  split<;>split<;>split<;>split<;>omega
structure Sub (X A:Ask):Prop where
 ix:X.ix=A.ix
 s0:A.sl≤X.sl
 s1:X.sl≤A.sh
 po:X.po=A.po
 w0:A.wl≤X.wl
 w1:X.wl≤A.wh
 ls:∃ps,Lays ps A.ls∧Lays ps X.ls
 oi:X.oi=A.oi
 ol:X.ol=A.ol
theorem within_over {A X:Ask} (a:AskOk A) (x:AskOk X) (h:Sub X A) (q1:(ampR A false).q=0) (q2:(ampR A true).q=0) (q3:(ampR X false).q=0) (q4:(ampR X true).q=0)
  (hy:0<(admR 0 A ⟨A.ix,A.ix,0,0,0⟩).a-(admR 0 A ⟨A.ix,A.ix,0,0,0⟩).c) (hy':0<(admR 0 X ⟨X.ix,X.ix,0,0,0⟩).a-(admR 0 X ⟨X.ix,X.ix,0,0,0⟩).c) (lo:Bool) :
  ∀S U:Shr,S=shrOf (ampR A false) (ampR A true) (admR 0 A ⟨A.ix,A.ix,0,0,0⟩) (admR 0 A ⟨A.oi,A.oi,0,0,A.ol⟩) (stopR 0 A ⟨A.oi,A.oi,0,0,A.ol⟩) lo →
   U=shrOf (ampR X false) (ampR X true) (admR 0 X ⟨X.ix,X.ix,0,0,0⟩) (admR 0 X ⟨X.oi,X.oi,0,0,X.ol⟩) (stopR 0 X ⟨X.oi,X.oi,0,0,X.ol⟩) lo →
   Over S.r0 S.r1 U.r0 U.r1∧Over S.t0 S.t1 U.t0 U.t1∧Over S.a0 S.a1 U.a0 U.a1:=by
 obtain⟨ps,hpA,hpX⟩:=h.ls
 have P:=ptA_ok x hpX
 have Q:(ptA X ps).ok A:=⟨⟨h.ix.symm,h.s0,h.s1,h.po.symm,h.w0,h.w1,hpA.all,h.oi.symm,h.ol.symm⟩,hpA,Int.le_trans (by decide) a.i0,Int.le_trans (by decide) a.w0,Int.le_trans (by decide) a.oi0,a.ol0⟩
 obtain⟨fy,fz⟩:=amp_adm q1
 obtain⟨fy',fz'⟩:=amp_adm q3
 have aF:(frontP (ptA X ps)).at ⟨A.ix,A.ix,0,0,0⟩:=⟨by rw[← h.ix];exact Int.le_refl _,by rw[← h.ix];exact Int.le_refl _,Int.le_refl _,Int.le_refl _,rfl⟩
 have aB:(backP (ptA X ps)).at ⟨A.oi,A.oi,0,0,A.ol⟩:=⟨by rw[← h.oi];exact Int.le_refl _,by rw[← h.oi];exact Int.le_refl _,Int.le_refl _,Int.le_refl _,h.ol.symm⟩
 have xF:(frontP (ptA X ps)).at ⟨X.ix,X.ix,0,0,0⟩:=⟨Int.le_refl _,Int.le_refl _,Int.le_refl _,Int.le_refl _,rfl⟩
 have xB:(backP (ptA X ps)).at ⟨X.oi,X.oi,0,0,X.ol⟩:=⟨Int.le_refl _,Int.le_refl _,Int.le_refl _,Int.le_refl _,rfl⟩
 have iF:=(in_adm Q.i Q.ix aF P.ix (Int.le_refl _) fy).2.1
 have iB:=(in_adm Q.i Q.ix aB P.oi P.ol fz).2.1
 have jF:=(in_adm P.i P.ix xF P.ix (Int.le_refl _) fy').2.1
 have jB:=(in_adm P.i P.ix xB P.oi P.ol fz').2.1
 have t1:=(in_amp Q q2).1
 have t2:=(in_amp P q4).1
 have r1:=(in_amp Q q1).1
 have r2:=(in_amp P q3).1
 have k1:=tran_same iF iB t1 hy iF iB t1 hy
 have k2:=tran_same iF iB t1 hy jF jB t2 hy'
 have k3:=tran_same jF jB t2 hy' iF iB t1 hy
 have k4:=tran_same jF jB t2 hy' jF jB t2 hy'
 have s1:stopR 0 A ⟨A.oi,A.oi,0,0,A.ol⟩=true→shT0 (ampR X true) (admR 0 X ⟨X.ix,X.ix,0,0,0⟩) (admR 0 X ⟨X.oi,X.oi,0,0,X.ol⟩)=0:=fun st=>shT0_zero (in_re0 jB (stop_zero Q.i Q.ix aB P.oi P.ol (adm_nor fz) st))
 have s2:stopR 0 X ⟨X.oi,X.oi,0,0,X.ol⟩=true→shT0 (ampR A true) (admR 0 A ⟨A.ix,A.ix,0,0,0⟩) (admR 0 A ⟨A.oi,A.oi,0,0,A.ol⟩)=0:=fun st=>shT0_zero (in_re0 iB (stop_zero P.i P.ix xB P.oi P.ol (adm_nor fz') st))
 have n1:=shT1_nn (Z:=admR 0 A ⟨A.oi,A.oi,0,0,A.ol⟩) (fine_amp A true) hy
 have n2:=shT1_nn (Z:=admR 0 X ⟨X.oi,X.oi,0,0,X.ol⟩) (fine_amp X true) hy'
 have g1:=refl_over r1 r1 fun n=>rfl
 have g2:=refl_over r1 r2 fun n=>rfl
 have g3:=refl_over r2 r1 fun n=>rfl
 have g4:=refl_over r2 r2 fun n=>rfl
 intro S U hS hU
 subst hS
 subst hU
 unfold shrOf
 dsimp only
 have m1:=shS_over k1 k2 k3 k4 n1 n2 s1 s2
 have m2:Over (cutO (enL (ampR A false).a (ampR A false).b (ampR A false).c)) (cutO (enH (ampR A false).a (ampR A false).b (ampR A false).c)) (cutO (enL (ampR X false).a (ampR X false).b (ampR X false).c)) (cutO (enH (ampR X false).a (ampR X false).b (ampR X false).c)):=by
  unfold Over
  omega
 exact⟨m2,m1,rest_over m2 m1⟩
end Go.Proofs.YticobgianbecpaaGreatDoor
namespace Go.Proofs.YticobgianbecpaaGreatDoor
open Go Go.Sort Go.RowKit
def selB (i t:Int) (b:Box):Box:=⟨ptN b.il b.ih i,ptN b.il b.ih i,ptN b.tl b.th t,ptN b.tl b.th t,b.lo⟩
def selA (A:Ask) (s v i t:Int) (p:Option Addr) (c:Nat):Ask:=⟨A.ix,ptN A.sl A.sh s,ptN A.sl A.sh s,A.po,ptN A.wl A.wh v,ptN A.wl A.wh v,A.ls.map (selB i t),A.oi,A.ol,p,c⟩
theorem selB_ok {b:Box} (h:BoxOk b) (i t:Int):BoxOk (selB i t b):=by
 obtain⟨h0,h1,h2,h3,h4,h5,h6,h7⟩:=h
 have a:=ptN_in i h1
 have c:=ptN_in t h4
 unfold selB
 exact⟨by dsimp only;omega,by dsimp only;omega,by dsimp only;omega,by dsimp only;omega,by dsimp only;omega,by dsimp only;omega,h6,h7⟩
theorem selA_ok {A:Ask} (a:AskOk A) (s v i t:Int) (p:Option Addr) (c:Nat):AskOk (selA A s v i t p c):=by
 have x:=ptN_in s a.s1
 have y:=ptN_in v a.w1
 have:=a.s0
 have:=a.s2
 have:=a.w0
 have:=a.w2
 unfold selA
 exact⟨a.i0,a.i1,by dsimp only;omega,Int.le_refl _,by dsimp only;omega,a.p0,by dsimp only;omega,Int.le_refl _,by dsimp only;omega,fun b hb=>by
  obtain⟨c,hc,rfl⟩:=List.mem_map.1 hb
  exact selB_ok (a.ls c hc) i t,by rw[List.length_map];exact a.len,a.oi0,a.oi1,a.ol0,a.ol1⟩
theorem sel_lays (i t:Int):∀ {ls:List Box},(∀b∈ls,BoxOk b)→∃ps,Lays ps ls∧Lays ps (ls.map (selB i t))
 | [],_=>⟨[],.nil,.nil⟩
 | b::l,h=>by
  obtain⟨ps,h1,h2⟩:=sel_lays i t (ls:=l) (fun c hc=>h c (List.mem_cons_of_mem _ hc))
  obtain⟨k0,k1,k2,k3,k4,k5,k6,_⟩:=h b (List.mem_cons_self ..)
  have a:=ptN_in i k1
  have c:=ptN_in t k4
  exact⟨⟨ptN b.il b.ih i,ptN b.tl b.th t,b.lo⟩::ps,.cons ⟨⟨a.1,a.2,c.1,c.2,rfl⟩,by show(0:Int)≤ptN b.il b.ih i;omega,by show(0:Int)≤b.lo;omega,by omega⟩ h1,
   .cons ⟨⟨Int.le_refl _,Int.le_refl _,Int.le_refl _,Int.le_refl _,rfl⟩,by show(0:Int)≤ptN b.il b.ih i;omega,by show(0:Int)≤b.lo;omega,by show(0:Int)≤ptN b.tl b.th t;omega⟩ h2⟩
theorem sel_sub {A:Ask} (a:AskOk A) (s v i t:Int) (p:Option Addr) (c:Nat):Sub (selA A s v i t p c) A :=
 ⟨rfl,(ptN_in s a.s1).1,(ptN_in s a.s1).2,rfl,(ptN_in v a.w1).1,(ptN_in v a.w1).2,sel_lays i t a.ls,rfl,rfl⟩
theorem sel_med (A:Ask) (s v i t:Int) (p:Option Addr) (c k:Nat):((selA A s v i t p c).med k).lo=(A.med k).lo:=by
 unfold Ask.med selA
 dsimp only
 split
 ·rfl
 ·rw[List.getElem?_map]
  cases A.ls[k-1]?<;>rfl
theorem sel_lossy (A:Ask) (s v i t:Int) (p:Option Addr) (c:Nat):lossy (selA A s v i t p c)=lossy A:=by
 unfold lossy
 simp only[sel_med]
 unfold selA
 simp
theorem within_shr {A:Ask} (s v i t:Int) (p:Option Addr) (c:Nat) (h:ShrOk A) (k:ShrOk (selA A s v i t p c)) :
  max (shr A).r0 (shr (selA A s v i t p c)).r0≤min (shr A).r1 (shr (selA A s v i t p c)).r1∧max (shr A).t0 (shr (selA A s v i t p c)).t0≤min (shr A).t1 (shr (selA A s v i t p c)).t1∧max (shr A).a0 (shr (selA A s v i t p c)).a0≤min (shr A).a1 (shr (selA A s v i t p c)).a1:=by
 have l:=sel_lossy A s v i t p c
 refine within_over h.ok k.ok (sel_sub h.ok s v i t p c) h.q1 h.q2 k.q1 k.q2 h.y k.y (lossy A) _ _ ?_ ?_
 ·unfold shr;rfl
 ·rw[← l];unfold shr;rfl
end Go.Proofs.YticobgianbecpaaGreatDoor
