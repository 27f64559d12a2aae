/- Joined: Normal Turning Factor Admit. -/
import Derived.Test.YticobgianbecpaaGreatDoorKNor
import Derived.Test.YticobgianbecpaaGreatDoorKTurs
import Derived.Test.YticobgianbecpaaGreatDoorKFac
namespace Go.Proofs.YticobgianbecpaaGreatDoor
open Go Go.Sort Go.RowKit
theorem normal_any (B:Nat) (e:Int) (A:Ask) (n:Int) (b:Box) (hA:AskOk A) (hM:Med A n b):NGives n B e A (norR e A b) (stopR e A b):=by
 have IX:=index_any B e A n b hM
 obtain⟨N,hN⟩:=is_ex (idxR e b)
 rw[← hN.out]at IX
 have fN:Fine N:=hN.fine (fine_idx _ _)
 obtain⟨S,hS⟩:=is_ex (after N.q (sideR A))
 have fS:Fine S:=hS.fine (fine_after _ (fine_side _))
 obtain⟨Q,hQ⟩:=is_ex (after S.q (ti N N))
 have fQ:Fine Q:=hQ.fine (fine_after _ (fine_ti _ _))
 obtain⟨U,hU⟩:=is_ex (after Q.q (ti S S))
 have fU:Fine U:=hU.fine (fine_after _ (fine_ti _ _))
 obtain⟨V,hV⟩:=is_ex (after U.q (mi Q U))
 have fV:Fine V:=hV.fine (fine_after _ (fine_mi _ _))
 have hsq:=sq_is hN hS hQ hU hV
 have CS:Is S (after N.q (ofRangeM (dn (A.ix*A.sl*1048576) 100000000) (up (A.ix*A.sh*1048576) 100000000))):=by
  have:=hS;unfold sideR at this;exact this
 by_cases hv:V.q=0
 ·by_cases hl:b.lo=0
  ·obtain⟨e1,e2⟩:=nor_real hsq hv hl
   rw[e1,e2]
   exact nor_A B e A n b hA hM N S Q U V IX fN fS fQ fU fV CS hQ hU hV hv hl
  ·obtain⟨e1,e2⟩:=nor_root hsq hv hl
   rw[e1,e2]
   exact nor_B B e A n b hA hM N S Q U V IX fN fS fQ fU fV CS hQ hU hV hv hl
 ·obtain⟨e1,e2⟩:=nor_bad hsq hv
  rw[e1,e2]
  by_cases hl:b.lo=0
  ·exact nor_C B e A n b hA hM N S Q U V IX fN fS fQ fU fV CS hQ hU hV hv hl
  ·exact nor_D B e A n b hA hM N S Q U V IX fN fS fQ fU fV CS hQ hU hV hv hl
end Go.Proofs.YticobgianbecpaaGreatDoor
namespace Go.Proofs.YticobgianbecpaaGreatDoor
open Go Go.Sort Go.RowKit
theorem AskOk.tur {A:Ask}{b:Box} (hA:AskOk A) (hb:BoxOk b):TurPre A b:=by
 obtain⟨_,_,_,t0,t1,t2,_,_⟩:=hb
 obtain⟨_,_,_,_,_,_,w0,w1,w2,_,ln,_,_,_,_⟩:=hA
 exact⟨by omega,by omega,by omega,by omega,by omega,by omega,by omega,by omega,ln⟩
theorem turning_any (B:Nat) (e:Int) (A:Ask) (n:Int) (b:Box) (j:Nat) (hA:AskOk A) (hj:A.ls[j]?=some b) (hn:n=j+1) (w:World) (A2:Lt B e A w) :
  Calls Tryz.prog 124 #[.pointer (some ⟨B,0,none⟩),.int .i64 n] w fun E w' =>
   E = .returned (.agg #[.int .i64 (turR 0 e A b),.int .i64 (turR 1 e A b),.int .i64 (turR 2 e A b),.int .i64 (turR 3 e A b)])∧Trn B (norR e A b).q w w':=by
 have hM:Med A n b:=by rw[hn];exact med_layer A hA j b hj
 have NO:=normal_any B e A n b hA hM
 have hp:=hA.tur hM.ok
 have fQ:=fine_nor e A b
 by_cases hl:b.lo=0
 ·cases hst:stopR e A b
  ·have h:=turning_C B e A n b j hj hn hp (norR e A b) _ NO fQ _ _ _ _ rfl rfl rfl rfl hl hst w A2
   have e0:turP 0 e A b=pt (norR e A b).q ((norR e A b).a-(norR e A b).c):=by unfold turP;simp[hst]
   have e1:turP 1 e A b=pt (norR e A b).q ((norR e A b).a+(norR e A b).c):=by unfold turP;simp[hst]
   have e2:turP 2 e A b=0:=by unfold turP;simp[hst,hl]
   have e3:turP 3 e A b=0:=by unfold turP;simp[hst,hl]
   unfold turR
   simp only[e0,e1,e2,e3]
   exact h
  ·have h:=turning_B B e A n b j hj hn hp (norR e A b) _ NO fQ _ _ _ _ rfl rfl rfl rfl hl hst w A2
   have e0:turP 0 e A b=0:=by unfold turP;simp[hst,hl]
   have e1:turP 1 e A b=0:=by unfold turP;simp[hst,hl]
   have e2:turP 2 e A b=pt (norR e A b).q ((norR e A b).b-(norR e A b).c):=by unfold turP;simp[hst]
   have e3:turP 3 e A b=pt (norR e A b).q ((norR e A b).b+(norR e A b).c):=by unfold turP;simp[hst]
   unfold turR
   simp only[e0,e1,e2,e3]
   exact h
 ·have h:=turning_A B e A n b j hj hn hp (norR e A b) _ NO fQ _ _ _ _ rfl rfl rfl rfl hl w A2
  have e0:turP 0 e A b=pt (norR e A b).q ((norR e A b).a-(norR e A b).c):=by unfold turP;simp[hl]
  have e1:turP 1 e A b=pt (norR e A b).q ((norR e A b).a+(norR e A b).c):=by unfold turP;simp[hl]
  have e2:turP 2 e A b=pt (norR e A b).q ((norR e A b).b-(norR e A b).c):=by unfold turP;simp[hl]
  have e3:turP 3 e A b=pt (norR e A b).q ((norR e A b).b+(norR e A b).c):=by unfold turP;simp[hl]
  unfold turR
  simp only[e0,e1,e2,e3]
  exact h
end Go.Proofs.YticobgianbecpaaGreatDoor
namespace Go.Proofs.YticobgianbecpaaGreatDoor
open Go Go.Sort Go.RowKit
theorem dn_le {a d n:Int} (ha:0≤a) (h1:a≤n*d) (hd:0<d):0≤dn a d∧dn a d≤n:=by
 unfold dn
 exact⟨Int.ediv_nonneg ha (by omega),Int.ediv_le_of_le_mul hd h1⟩
theorem up_le {a d n:Int} (ha:0≤a) (h1:a≤n*d) (hd:0<d):0≤up a d∧up a d≤n:=by
 unfold up
 refine⟨Int.ediv_nonneg (by omega) (by omega),?_⟩
 have h2:a+d-1<(n+1)*d:=by rw[Int.add_mul];omega
 have:=Int.ediv_lt_of_lt_mul hd h2
 omega
theorem dn_up {a b c d:Int} (h:a≤b) (hc:0<c) (hd:c≤d) (ha:0≤a):dn a d≤up b c:=by
 unfold dn up
 have h1:a/d≤a/c:=Int.le_ediv_of_mul_le hc (Int.le_trans (Int.mul_le_mul_of_nonneg_left hd (Int.ediv_nonneg ha (by omega))) (Int.ediv_mul_le a (by omega)))
 have h2:a/c≤(b+c-1)/c:=Int.ediv_le_ediv hc (by omega)
 omega
theorem four_bd {p t W:Int} (hp:p≤134217728) (t0:0≤t) (t1:t≤1000000) (hW:1000≤W):(0≤dn (4*pos p*t) W∧dn (4*pos p*t) W≤536870912000)∧(0≤up (4*pos p*t) W∧up (4*pos p*t) W≤536870912000):=by
 obtain⟨h0,h1⟩:=mul4_bd hp t0 t1
 exact⟨dn_le h0 (by omega) (by omega),up_le h0 (by omega) (by omega)⟩
theorem pos_mono {a b:Int} (h:a≤b):pos a≤pos b:=by unfold pos;split<;>split<;>omega
theorem turP_bd (k:Nat) (e:Int) (A:Ask) (b:Box):turP k e A b≤134217728:=by
 obtain⟨⟨_,h0⟩,⟨_,h1⟩,⟨_,h2⟩,_,h3⟩:=pt_bd (fine_nor e A b)
 unfold turP
 simp only
 split<;>split<;>omega
theorem turP_le (e:Int) (A:Ask) (b:Box):turP 2 e A b≤turP 3 e A b:=by
 obtain⟨_,r0,_⟩:=(fine_nor e A b).right
 unfold turP pt
 simp only
 split
 ·exact Int.le_refl _
 ·split
  ·omega
  ·exact Int.le_refl _
theorem fac_pre {e:Int}{A:Ask}{b:Box}{n:Int} (hA:AskOk A) (hb:BoxOk b) (hn:n=1∨n=2):FacPre n (turR 0 e A b) (turR 1 e A b) (turR 2 e A b) (turR 3 e A b):=by
 obtain⟨t0,t1,t2,t3,w0,w1,w2,w3,_⟩:=hA.tur hb
 have hw:=hA.w1
 have ht:=hb.t1
 obtain⟨⟨a0,a1⟩,_⟩:=four_bd (turP_bd 0 e A b) t0 t1 w2
 obtain⟨_,b0,b1⟩:=four_bd (turP_bd 1 e A b) t2 t3 w0
 obtain⟨⟨c0,c1⟩,_⟩:=four_bd (turP_bd 2 e A b) t0 t1 w2
 obtain⟨_,d0,d1⟩:=four_bd (turP_bd 3 e A b) t2 t3 w0
 have le:dn (4*pos (turP 2 e A b)*b.tl) A.wh≤up (4*pos (turP 3 e A b)*b.th) A.wl:=by
  refine dn_up ?_ (by omega) hw (mul4_bd (turP_bd 2 e A b) t0 t1).1
  have p0:=(pos_bd (turP 3 e A b) (turP_bd 3 e A b)).1
  have p1:=pos_mono (turP_le e A b)
  exact Int.mul_le_mul (by omega) ht t0 (by omega)
 unfold turR
 simp only
 rcases hn with rfl|rfl<;>exact⟨by omega,by omega,by omega,by omega,by omega,by omega,by omega⟩
theorem factor_any (B:Nat) (e:Int) (A:Ask) (m:Int) (b:Box) (j:Nat) (n:Int) (hA:AskOk A) (hj:A.ls[j]?=some b) (hm:m=j+1) (hn:n=1∨n=2) :
  LGives 74 #[.pointer (some ⟨B,0,none⟩),.int .i64 m,.int .i64 n] B e A (facR e A b n):=by
 have hb:BoxOk b:=hA.ls b (List.mem_of_getElem? hj)
 have TU:TGives m B e A (turR 0 e A b) (turR 1 e A b) (turR 2 e A b) (turR 3 e A b) (norR e A b).q:=fun w L=>turning_any B e A m b j hA hj hm w L
 have hp:=fac_pre (e:=e) hA hb hn
 by_cases hq:(norR e A b).q=0
 ·rw[hq]at TU
  by_cases hc:n*turR 1 e A b-n*turR 0 e A b<1048576
  ·obtain⟨C,hC⟩:=is_ex (arcM (n*turR 0 e A b) (n*turR 1 e A b))
   obtain⟨R,hR⟩:=is_ex (after C.q (ofRangeM (fLo (n*turR 3 e A b)) (fHi (n*turR 2 e A b))))
   have hF:=fac_arc hq hc hC hR
   by_cases hCq:C.q=0
   ·rw[hF.out]
    rw[hCq]at hR
    exact factor_C B e A m n _ _ _ _ hp TU hc C R _ hC hCq hR (is_rfl _)
   ·have e1:R.q=C.q:=by rw[hR.out,after_err _ hCq,(quad_bad _).2.2.2]
    rw[hF.out,after_err _ (by rw[e1];exact hCq),e1]
    rw[hC.out]at hCq ⊢
    exact factor_B B e A m n _ _ _ _ hp TU hc hCq
  ·obtain⟨R,hR⟩:=is_ex (after 0 (ofRangeM (fLo (n*turR 3 e A b)) (fHi (n*turR 2 e A b))))
   have hF:=fac_all hq hc hR
   rw[hF.out]
   exact factor_D B e A m n _ _ _ _ hp TU hc R _ hR (is_rfl _)
 ·rw[fac_bad hq]
  exact factor_A B e A m n _ _ _ _ hp _ TU hq
end Go.Proofs.YticobgianbecpaaGreatDoor
namespace Go.Proofs.YticobgianbecpaaGreatDoor
open Go Go.Sort Go.RowKit
theorem adm_s {e:Int}{A:Ask}{b:Box}{q:Res} (hq:Is q (norR e A b)) (h:A.po=0):Is (admR e A b) q:=by cases hq;unfold admR Is;simp only;rw[if_pos h]
theorem adm_p {e:Int}{A:Ask}{b:Box}{q n nn:Res} (hq:Is q (norR e A b)) (hn:Is n (idxR q.q b)) (hnn:Is nn (after n.q (ti n n))) (h:¬A.po=0):Is (admR e A b) (after nn.q (qt nn q)):=by
 cases hq;cases hn;cases hnn;unfold admR Is;simp only;rw[if_neg h]
set_option maxHeartbeats 2000000 in
theorem adm_any (B:Nat) (e:Int) (A:Ask) (n:Int) (b:Box) (hA:AskOk A) (hM:Med A n b) :
  LGives 38 #[.pointer (some ⟨B,0,none⟩),.int .i64 n] B e A (admR e A b):=by
 intro w A2
 have NO:=fun w L=>normal_any B e A n b hA hM w L
 obtain⟨Q,hQ⟩:=is_ex (norR e A b)
 have fQ:Fine Q:=hQ.fine (fine_nor _ _ _)
 rw[← hQ.out]at NO
 generalize stopR e A b=st at *
 have NO:=Lib.hid NO
 by_cases hp:A.po=0
 ·have hp1:(A.po==0)=true:=by simpa using hp
  rw[(adm_s hQ hp).out]
  clear hA
  have A6:=A2.st
  have Av:=tr_refl A6
  obtain⟨Al,Am,An,Ao,Ap,Aq,Ar,As,At⟩:=A2.cells
  have B6:=A6.cell
  have B7:=A6.free
  have Be:=A6.lt
  have Bd:=own5 Be
  go_enter Tryz.func38,Tryz.ntmps38
  go_wp2_with fail
  refine(NO.out _ (Lt.turn A2 (Trn.kp Av kpw))).mono ?_
  rintro e w1 ⟨rfl,A0⟩
  have A8:=A0.size_le
  (try simp at A8)
  have Ak:=tn5 A0 (w.heap.size)
  have A4:=Trn.nx Av kpw A0
  have B8:=A4.le
  have A7:=Lt.turn A2 A4
  have A3:=A7.st
  obtain⟨Aa,Ab,Ac,Ad,Ae,Af,Ag,Ah,Ai⟩:=A7.cells
  have Aw:=A3.cell
  have Ax:=A3.free
  have Au:=A3.lt
  have B2:=own5 Au
  (try clear B6 B7 Al Am An Ao Ap Aq Ar As At Bd)
  repeat' (first|go_values|go_skip|go_guarded|go_step|go_upon|(simp only[];go_simp))
  refine bodyPost_ret (by simp[results,Tryz.results38,go_sem, *];first|done|rfl) rfl ?_
  exact⟨rfl,trw⟩
 ·have hp1:(A.po==0)=false:=by simpa using hp
  have IX:=fun w L=>index_any B Q.q A n b hM w L
  obtain⟨N,hN⟩:=is_ex (idxR Q.q b)
  have fN:Fine N:=hN.fine (fine_idx _ _)
  rw[← hN.out]at IX
  have IX:=Lib.hid IX
  obtain⟨S,hS⟩:=is_ex (after N.q (ti N N))
  have fS:Fine S:=hS.fine (fine_after _ (fine_ti _ _))
  obtain⟨Y,hY⟩:=is_ex (after S.q (qt S Q))
  rw[(adm_p hQ hN hS hp).out,← hY.out]
  clear hA
  have A6:=A2.st
  have Av:=tr_refl A6
  obtain⟨Al,Am,An,Ao,Ap,Aq,Ar,As,At⟩:=A2.cells
  have B6:=A6.cell
  have B7:=A6.free
  have Be:=A6.lt
  have Bd:=own5 Be
  go_enter Tryz.func38,Tryz.ntmps38
  go_wp2_with fail
  refine(NO.out _ (Lt.turn A2 (Trn.kp Av kpw))).mono ?_
  rintro e w1 ⟨rfl,A0⟩
  have A8:=A0.size_le
  (try simp at A8)
  have Ak:=tn5 A0 (w.heap.size)
  have A4:=Trn.nx Av kpw A0
  have B8:=A4.le
  have A7:=Lt.turn A2 A4
  have A3:=A7.st
  obtain⟨Aa,Ab,Ac,Ad,Ae,Af,Ag,Ah,Ai⟩:=A7.cells
  have Aw:=A3.cell
  have Ax:=A3.free
  have Au:=A3.lt
  have B2:=own5 Au
  (try clear B6 B7 Al Am An Ao Ap Aq Ar As At Bd)
  go_wp2_with fail
  refine(IX.out _ (Lt.turn A2 (Trn.kp A4 kpw))).mono ?_
  rintro e w2 ⟨rfl,A5⟩
  have B0:=A5.size_le
  (try simp at B0)
  have Bb:=tn5 A5 (w.heap.size)
  have B3:=tn5 A5 (w1.heap.size)
  obtain⟨A9,Bf,Bh,Bk,Bn,Ba⟩:=pkx A2 A4 kpw A5
  (try clear Aw Ax Aa Ab Ac Ad Ae Af Ag Ah Ai B2)
  go_wp2_with fail
  refine turn (fun i=>i==8||i==10) 11 (by kernel_rfl) (by kernel_rfl) (St.cell (St.turn A6 (Trn.kp A9 kpw))) fun hG => ?_
  have B9:=fun o=>hG (w.heap.size) lto o (ne_addr (by omega))
  have Ay:=fun o=>hG (w1.heap.size) lto o (ne_addr (by omega))
  have Az:=fun o=>hG (w2.heap.size) lto o (ne_addr (by omega))
  have Aj:=fun o=>hG B lto (o+1) ne_off
  clear hG
  simp only[List.take_succ_cons,List.take_zero,List.drop_succ_cons,List.drop_zero]
  repeat (first|(refine wpTurn_pure rfl (fun K hK => ?_);go_simp;first|(refine hK _ _ ?_;clear hK K)|(apply Exists.intro;refine⟨fun _ _ => ?_,hK _ _ ?_⟩;(first|fail);clear hK K))|(refine wpTurn_eff rfl (fun K hK => ?_);go_simp;(first|(first|with_reducible refine⟨_,_,fun _=>tur_st (St.turn A6 (Trn.kp A9 kpw)) (fun w h=>(c_times B N.q N N fN fN).to hS w h),?_⟩|with_reducible refine⟨_,_,fun _=>tur_st (St.turn A6 (Trn.kp A9 kpw)) (fun w h=>(c_by B S.q S Q fS fQ).to hY w h),?_⟩));refine hK _ _ ?_;clear hK K))
  refine wpTurn_nil ?_
  intro w3 A1
  clear Aj B9 Ay Az
  have B1:=A1.size_le
  (try simp at B1)
  have Bc:=tn5 A1 (w.heap.size)
  have B4:=tn5 A1 (w1.heap.size)
  have B5:=tn5 A1 (w2.heap.size)
  obtain⟨Bj,Bg,Bi,Bl,Bo,Bm⟩:=pkx A2 A9 kpw A1
  (try clear Ba)
  repeat' (first|go_values|go_skip|go_guarded|go_step|go_upon|(simp only[];go_simp))
  refine bodyPost_ret (by simp[results,Tryz.results38,go_sem, *];first|done|rfl) rfl ?_
  exact⟨rfl,trw⟩
end Go.Proofs.YticobgianbecpaaGreatDoor
