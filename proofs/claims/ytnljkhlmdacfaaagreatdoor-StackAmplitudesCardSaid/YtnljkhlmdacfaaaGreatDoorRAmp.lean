/- The reflected amplitude: the reference's walk. -/
import Derived.Test.YtnljkhlmdacfaaaGreatDoorRAll
import Derived.Test.YtnljkhlmdacfaaaGreatDoorKRefl
import Derived.Deep.RegionHeld3
namespace Go.Proofs.YtnljkhlmdacfaaaGreatDoor
open Go Go.Sort Go.RowKit
theorem amp_isp {A:Ask}{y l b1 b c1 c a d x:Res}{t:Thr}{p:Mat} (hp:t.q=0→p=t.p) (hy:Is y (admR 0 A (A.med 0))) (ht:t=thrR y.q A false) (hl:Is l (admR t.q A (A.med (A.ls.length+1)))) (h1:Is b1 (after l.q (ti p.m1 l)))
  (h2:Is b (after b1.q (pl p.m0 b1))) (h3:Is c1 (after b.q (ti p.m3 l))) (h4:Is c (after c1.q (pl p.m2 c1))) (h5:Is a (after c.q (ti y b))) (h6:Is d (after a.q (pl a c))) (h7:Is x (after d.q (mi a c))):Is (ampR A false) (after x.q (qt x d)):=by
 rw[← ampE_zero]
 by_cases hq:t.q=0
 ·have e:=hp hq
  subst e
  exact amp_is hy ht hl h1 h2 h3 h4 h5 h6 h7
 ·have k:l.q≠0:=by rw[hl.out,adm_bad hq];exact hq
  have e1:b1 = .bad l.q:=by rw[h1.out,after_err _ k]
  have e2:b = .bad l.q:=by rw[h2.out,e1,res_bad_q,after_err _ k]
  have e3:c1 = .bad l.q:=by rw[h3.out,e2,res_bad_q,after_err _ k]
  have e4:c = .bad l.q:=by rw[h4.out,e3,res_bad_q,after_err _ k]
  have e5:a = .bad l.q:=by rw[h5.out,e4,res_bad_q,after_err _ k]
  have e6:d = .bad l.q:=by rw[h6.out,e5,res_bad_q,after_err _ k]
  have e7:x = .bad l.q:=by rw[h7.out,e6,res_bad_q,after_err _ k]
  rw[e7,res_bad_q,after_err _ k]
  obtain⟨B1,hB1⟩:=is_ex (after l.q (ti t.p.m1 l))
  obtain⟨B2,hB2⟩:=is_ex (after B1.q (pl t.p.m0 B1))
  obtain⟨C1,hC1⟩:=is_ex (after B2.q (ti t.p.m3 l))
  obtain⟨C2,hC2⟩:=is_ex (after C1.q (pl t.p.m2 C1))
  obtain⟨A1,hA1⟩:=is_ex (after C2.q (ti y B2))
  obtain⟨D1,hD1⟩:=is_ex (after A1.q (pl A1 C2))
  obtain⟨X1,hX1⟩:=is_ex (after D1.q (mi A1 C2))
  have G:=amp_is hy ht hl hB1 hB2 hC1 hC2 hA1 hD1 hX1
  have f1:B1 = .bad l.q:=by rw[hB1.out,after_err _ k]
  have f2:B2 = .bad l.q:=by rw[hB2.out,f1,res_bad_q,after_err _ k]
  have f3:C1 = .bad l.q:=by rw[hC1.out,f2,res_bad_q,after_err _ k]
  have f4:C2 = .bad l.q:=by rw[hC2.out,f3,res_bad_q,after_err _ k]
  have f5:A1 = .bad l.q:=by rw[hA1.out,f4,res_bad_q,after_err _ k]
  have f6:D1 = .bad l.q:=by rw[hD1.out,f5,res_bad_q,after_err _ k]
  have f7:X1 = .bad l.q:=by rw[hX1.out,f6,res_bad_q,after_err _ k]
  rw[f7,res_bad_q,after_err _ k]at G
  exact G
set_option maxRecDepth 100000 in
set_option maxHeartbeats 16000000 in
theorem r_amp (B:Nat) (A:Ask) (hA:AskOk A):RLG 103 #[.pointer (some ⟨B,0,none⟩),A.val,.bool false] B 0 A (ampR A false):=by
 intro w Ao
 have hlen:=hA.len
 have M0:=rmed_front A hA
 have M1:=rmed_last A hA
 obtain⟨Y,hY⟩:=is_ex (admR 0 A (A.med 0))
 have fY:Fine Y:=hY.fine (fine_adm _ _ _)
 obtain⟨t,ht⟩:∃t,t=thrR Y.q A false:=⟨_,rfl⟩
 obtain⟨L,hL⟩:=is_ex (admR t.q A (A.med (A.ls.length+1)))
 have fL:Fine L:=hL.fine (fine_adm _ _ _)
 have AD0:=(r_adm B 0 A 0 _ hA M0).to (by rw[med_zero]at hY;exact hY)
 have AL:=fun w L=>r_all B Y.q A hA t (by rw[ht];unfold HidT thrR;rw[List.drop_zero]) w L
 have AD1:=(r_adm B t.q A (A.ls.length+1) _ hA M1).to (by rw[med_past]at hL;exact hL)
 have AMP:=fun(p:Mat) (hp:t.q=0→p=t.p) b1 b c1 c a d x => @amp_isp A Y L b1 b c1 c a d x t p hp hY ht hL
 obtain⟨R,hR⟩:=is_ex (ampR A false)
 rw[← hR.out]
 rw[← hR.out]at AMP
 unfold RLG Ask.val at AD0 AD1
 unfold Ask.val at AL ⊢
 generalize hln:A.ls.length=len at *
 have AD0:=Lib.hid AD0
 have AD1:=Lib.hid AD1
 have AL:=Lib.hid AL
 have AMP:=Lib.hid AMP
 clear hR ht hY hL M0 M1 hA hln
 have hw1:wrap64 ((len:Int)+1)=len+1:=IntWalk.wrap64_in _ ⟨by omega,by omega⟩
 have hw2:IntKind.i64.wrap ((len:Int)+1)=len+1:=IntWalk.i64_in _ ⟨by omega,by omega⟩
 have Ai:=Ao.st
 have E0:=tr_refl Ai
 have En:=Ai.cell
 have Ep:=Ai.free
 have Ev:=Ai.lt
 have Ex:=own5 Ev
 go_enter Tryz.func103,Tryz.ntmps103
 go_wp2_with fail
 refine(AD0.out _ (Rt.turn Ao (Trn.kp E0 kpw))).mono ?_
 rintro e w1 ⟨rfl,A8⟩
 have At:=A8.size_le
 (try simp at At)
 have Dj:=tn5 A8 (w.heap.size)
 have Ck:=tn5 A8 (w.heap.size+1)
 obtain⟨C8,Ej,El,Er,Et,Di⟩:=rkx Ao E0 kpw A8
 (try clear En Ep)
 go_wp2_with fail
 refine(AL.out _ (Rt.turn Ao (Trn.kp C8 kpw))).mono ?_
 rintro E w2 ⟨p,f,rfl,fp,hp, -,Ah⟩
 have Cj:=Ah.size_le
 (try simp at Cj)
 have Dl:=tn5 Ah (w.heap.size)
 have D2:=tn5 Ah (w.heap.size+1)
 have Df:=tn5 Ah (w1.heap.size)
 obtain⟨C9,Ek,Em,Es,Eu,Dk⟩:=rkx Ao C8 kpw Ah
 (try clear Di)
 have AMP:=AMP.out p hp
 clear hp
 obtain⟨P0,P1,P2,P3⟩:=p
 obtain⟨fP0,fP1,fP2,fP3⟩:=fp
 simp only at AMP fP0 fP1 fP2 fP3
 simp only[Mat.ints]
 obtain⟨b1,hb1⟩:=is_ex (after L.q (ti P1 L))
 have fb1:Fine b1:=hb1.fine (fine_after _ (fine_ti _ _))
 obtain⟨b,hb⟩:=is_ex (after b1.q (pl P0 b1))
 have fb:Fine b:=hb.fine (fine_after _ (fine_pl _ _))
 obtain⟨c1,hc1⟩:=is_ex (after b.q (ti P3 L))
 have fc1:Fine c1:=hc1.fine (fine_after _ (fine_ti _ _))
 obtain⟨c,hc⟩:=is_ex (after c1.q (pl P2 c1))
 have fc:Fine c:=hc.fine (fine_after _ (fine_pl _ _))
 obtain⟨a,ha⟩:=is_ex (after c.q (ti Y b))
 have fa:Fine a:=ha.fine (fine_after _ (fine_ti _ _))
 obtain⟨d,hd⟩:=is_ex (after a.q (pl a c))
 have fd:Fine d:=hd.fine (fine_after _ (fine_pl _ _))
 obtain⟨x,hx⟩:=is_ex (after d.q (mi a c))
 have fx:Fine x:=hx.fine (fine_after _ (fine_mi _ _))
 have HR:=AMP b1 b c1 c a d x hb1 hb hc1 hc ha hd hx
 have Tb1:=Lib.hid ((r_times B L.q P1 L fP1 fL).to hb1)
 have Tb:=Lib.hid ((r_plus B b1.q P0 b1 fP0 fb1).to hb)
 have Tc1:=Lib.hid ((r_times B b.q P3 L fP3 fL).to hc1)
 have Tc:=Lib.hid ((r_plus B c1.q P2 c1 fP2 fc1).to hc)
 have Ta:=Lib.hid ((r_times B c.q Y b fY fb).to ha)
 have Td:=Lib.hid ((r_plus B a.q a c fa fc).to hd)
 have Tx:=Lib.hid ((r_minus B d.q a c fa fc).to hx)
 have TR:=Lib.hid ((r_by B x.q x d fx fd).to HR)
 clear AMP HR hb1 hb hc1 hc ha hd hx fb1 fb fc1 fc fa fd fx fY fL fP0 fP1 fP2 fP3
 generalize t.q=tq at *
 generalize f.a=fa at *
 generalize f.b=fb at *
 generalize f.c=fc at *
 go_wp2_with fail
 refine(AD1.out _ (Rt.turn Ao (Trn.kp C9 kpw))).mono ?_
 rintro e w21 ⟨rfl,Ab⟩
 have B8:=Ab.size_le
 (try simp at B8)
 have Ay:=tn5 Ab (w.heap.size)
 have Ap:=tn5 Ab (w.heap.size+1)
 have Au:=tn5 Ab (w1.heap.size)
 have Av:=tn5 Ab (w2.heap.size)
 obtain⟨Ca,Dm,Dt,E2,Ef,Cl⟩:=rkx Ao C9 kpw Ab
 (try clear Dk)
 repeat (first|(with_reducible refine wp_markr 4 ?_)|go_values|go_skip|go_guarded|go_step|go_upon|(simp only[];go_simp))
 refine wp_named (fun w22 A4 => ?_)
 have Ak:=congrArg (fun w=>w.heap.size) A4
 (try simp at Ak)
 replace Ak:=Nat.le_of_eq Ak.symm
 obtain⟨Al,Dn,Du,E3,D3,Cm⟩:=rkn Ao Ca A4 kpw
 have Az:=cas A4 (w.heap.size) [.int .i64 A.ix,.int .i64 A.sl,.int .i64 A.sh,.int .i64 A.po,.int .i64 A.wl,.int .i64 A.wh,.slice A.pa len A.cap,.int .i64 A.oi,.int .i64 A.ol]
 have Ar:=cas A4 (w.heap.size+1) [.int .i64 0,.int .i64 0,.int .i64 0]
 have Aw:=cas A4 (w1.heap.size) [.int .i64 Y.a,.int .i64 Y.b,.int .i64 Y.c]
 have Ax:=cas A4 (w2.heap.size) [.int .i64 P0.a,.int .i64 P0.b,.int .i64 P0.c,.int .i64 P1.a,.int .i64 P1.b,.int .i64 P1.c,.int .i64 P2.a,.int .i64 P2.b,.int .i64 P2.c,.int .i64 P3.a,.int .i64 P3.b,.int .i64 P3.c]
 have Aq:=cas A4 (w21.heap.size) [.int .i64 L.a,.int .i64 L.b,.int .i64 L.c]
 simp only[CAf,Nat.reduceAdd,and_true]at Az Ar Aw Ax Aq
 clear A4
 (try clear Ay Ap Au Av Cl)
 go_wp2_with fail
 refine turn_new (fun i=>i==7||i==8) 9 #[.int .i64 0,.int .i64 0,.int .i64 0] 65 _ rfl (by kernel_rfl) (by kernel_rfl) (by first|omega|(simp;omega)) (St.cell (St.turn Ai (Trn.kp Al kpw))) (fun a w=>by kernel_rfl) fun hG => ?_
 have As:=fun o=>hG (w.heap.size) lto o (ne_addr (by omega))
 have Ad:=fun o=>hG (w.heap.size+1) lto o (ne_addr (by omega))
 have Af:=fun o=>hG (w1.heap.size) lto o (ne_addr (by omega))
 have Ag:=fun o=>hG (w2.heap.size) lto o (ne_addr (by omega))
 have Aj:=fun o=>hG (w21.heap.size) lto o (ne_addr (by omega))
 have Ac:=fun o=>hG B lto (o+1) ne_off
 clear hG
 simp only[List.take_succ_cons,List.take_zero,List.drop_succ_cons,List.drop_zero]
 repeat (first|(refine wpTurn_pure rfl (fun K hK => ?_);go_simp;first|(refine hK _ _ ?_;clear hK K)|(apply Exists.intro;refine⟨fun _ _ => ?_,hK _ _ ?_⟩;(first|fail);clear hK K))|(refine wpTurn_eff rfl (fun K hK => ?_);go_simp;(first|(first|with_reducible refine⟨_,_,fun _=>tur_st (St.turn Ai (Trn.kp Al kpw)) (fun w h=>Tb1.out w h),?_⟩|with_reducible refine⟨_,_,fun _=>tur_st (St.turn Ai (Trn.kp Al kpw)) (fun w h=>Tb.out w h),?_⟩));refine hK _ _ ?_;clear hK K))
 refine wpTurn_nil ?_
 intro B1 w23 hN
 obtain⟨A9,A2,Dg,Ea,Ec⟩:=hN
 (try simp at A2)
 clear Ac As Ad Af Ag Aj
 have B9:=A9.size_le
 (try simp at B9)
 have Da:=tn5 A9 (w.heap.size)
 have Bt:=tn5 A9 (w.heap.size+1)
 have Co:=tn5 A9 (w1.heap.size)
 have Cp:=tn5 A9 (w2.heap.size)
 have Bs:=tn5 A9 (w21.heap.size)
 obtain⟨Am,Do,Dv,E4,D4,Cn⟩:=rkx Ao Al kpw A9
 (try clear Cm D3)
 have D8:¬B1=w.heap.size:=by first|omega|(simp at A2;omega)
 have D6:¬w.heap.size=B1:=by first|omega|(simp at A2;omega)
 have Bn:¬B1=w.heap.size+1:=by first|omega|(simp at A2;omega)
 have Bg:¬w.heap.size+1=B1:=by first|omega|(simp at A2;omega)
 have Cf:¬B1=w1.heap.size:=by first|omega|(simp at A2;omega)
 have Cb:¬w1.heap.size=B1:=by first|omega|(simp at A2;omega)
 have Cg:¬B1=w2.heap.size:=by first|omega|(simp at A2;omega)
 have Cc:¬w2.heap.size=B1:=by first|omega|(simp at A2;omega)
 have Bm:¬B1=w21.heap.size:=by first|omega|(simp at A2;omega)
 have Bf:¬w21.heap.size=B1:=by first|omega|(simp at A2;omega)
 have Bl:¬B1=B:=by first|omega|(simp at A2;omega)
 have Be:¬B=B1:=by first|omega|(simp at A2;omega)
 go_wp2_with fail
 refine turn_new (fun i=>i==7||i==8) 9 #[.int .i64 0,.int .i64 0,.int .i64 0] 65 _ rfl (by kernel_rfl) (by kernel_rfl) (by first|omega|(simp;omega)) (St.cell (St.turn Ai (Trn.kp Am kpw))) (fun a w=>by kernel_rfl) fun hG => ?_
 have As:=fun o=>hG (w.heap.size) lto o (ne_addr (by omega))
 have Ad:=fun o=>hG (w.heap.size+1) lto o (ne_addr (by omega))
 have Af:=fun o=>hG (w1.heap.size) lto o (ne_addr (by omega))
 have Ag:=fun o=>hG (w2.heap.size) lto o (ne_addr (by omega))
 have Aj:=fun o=>hG (w21.heap.size) lto o (ne_addr (by omega))
 have B6:=fun o=>hG (B1) lto o (ne_addr (by omega))
 have Ac:=fun o=>hG B lto (o+1) ne_off
 clear hG
 simp only[List.take_succ_cons,List.take_zero,List.drop_succ_cons,List.drop_zero]
 repeat (first|(refine wpTurn_pure rfl (fun K hK => ?_);go_simp;first|(refine hK _ _ ?_;clear hK K)|(apply Exists.intro;refine⟨fun _ _ => ?_,hK _ _ ?_⟩;(first|fail);clear hK K))|(refine wpTurn_eff rfl (fun K hK => ?_);go_simp;(first|(first|with_reducible refine⟨_,_,fun _=>tur_st (St.turn Ai (Trn.kp Am kpw)) (fun w h=>Tc1.out w h),?_⟩|with_reducible refine⟨_,_,fun _=>tur_st (St.turn Ai (Trn.kp Am kpw)) (fun w h=>Tc.out w h),?_⟩));refine hK _ _ ?_;clear hK K))
 refine wpTurn_nil ?_
 intro B2 w24 hN
 obtain⟨A5,A0,Dh,Eb,Ed⟩:=hN
 (try simp at A0)
 clear Ac As Ad Af Ag Aj B6
 have Ba:=A5.size_le
 (try simp at Ba)
 have Db:=tn5 A5 (w.heap.size)
 have Bv:=tn5 A5 (w.heap.size+1)
 have Cr:=tn5 A5 (w1.heap.size)
 have Cs:=tn5 A5 (w2.heap.size)
 have Bu:=tn5 A5 (w21.heap.size)
 have Bw:=tn5 A5 (B1)
 obtain⟨B0,Dp,Dw,E5,D5,Cq⟩:=rkx Ao Am kpw A5
 (try clear Cn D4)
 have D9:¬B2=w.heap.size:=by first|omega|(simp at A0;omega)
 have D7:¬w.heap.size=B2:=by first|omega|(simp at A0;omega)
 have Bq:¬B2=w.heap.size+1:=by first|omega|(simp at A0;omega)
 have Bj:¬w.heap.size+1=B2:=by first|omega|(simp at A0;omega)
 have Ch:¬B2=w1.heap.size:=by first|omega|(simp at A0;omega)
 have Cd:¬w1.heap.size=B2:=by first|omega|(simp at A0;omega)
 have Ci:¬B2=w2.heap.size:=by first|omega|(simp at A0;omega)
 have Ce:¬w2.heap.size=B2:=by first|omega|(simp at A0;omega)
 have Bp:¬B2=w21.heap.size:=by first|omega|(simp at A0;omega)
 have Bi:¬w21.heap.size=B2:=by first|omega|(simp at A0;omega)
 have Br:¬B2=B1:=by first|omega|(simp at A0;omega)
 have Bk:¬B1=B2:=by first|omega|(simp at A0;omega)
 have Bo:¬B2=B:=by first|omega|(simp at A0;omega)
 have Bh:¬B=B2:=by first|omega|(simp at A0;omega)
 go_wp2_with fail
 refine(Ta.out _ (St.turn Ai (Trn.kp B0 kpw))).mono ?_
 rintro e w25 ⟨rfl,Aa⟩
 have Bb:=Aa.size_le
 (try simp at Bb)
 have Dc:=tn5 Aa (w.heap.size)
 have Bx:=tn5 Aa (w.heap.size+1)
 have Cu:=tn5 Aa (w1.heap.size)
 have Cv:=tn5 Aa (w2.heap.size)
 have By:=tn5 Aa (B2)
 obtain⟨B3,Dq,Dx,E6,Eg,Ct⟩:=rkx Ao B0 kpw Aa
 (try clear Cq D5)
 go_wp2_with fail
 refine(Td.out _ (St.turn Ai (Trn.kp B3 kpw))).mono ?_
 rintro e w26 ⟨rfl,A6⟩
 have Bc:=A6.size_le
 (try simp at Bc)
 have Dd:=tn5 A6 (w.heap.size)
 have C0:=tn5 A6 (w.heap.size+1)
 have Cx:=tn5 A6 (w1.heap.size)
 have Cy:=tn5 A6 (w2.heap.size)
 have C3:=tn5 A6 (B2)
 have Bz:=tn5 A6 (w25.heap.size)
 obtain⟨An,Dr,Dy,E7,Eh,Cw⟩:=rkx Ao B3 kpw A6
 (try clear Ct)
 go_wp2_with fail
 refine turn (fun i=>i==4||i==6) 7 (by kernel_rfl) (by kernel_rfl) (St.cell (St.turn Ai (Trn.kp An kpw))) fun hG => ?_
 have As:=fun o=>hG (w.heap.size) lto o (ne_addr (by omega))
 have Ad:=fun o=>hG (w.heap.size+1) lto o (ne_addr (by omega))
 have Af:=fun o=>hG (w1.heap.size) lto o (ne_addr (by omega))
 have Ag:=fun o=>hG (w2.heap.size) lto o (ne_addr (by omega))
 have B7:=fun o=>hG (B2) lto o (ne_addr (by omega))
 have B4:=fun o=>hG (w25.heap.size) lto o (ne_addr (by omega))
 have B5:=fun o=>hG (w26.heap.size) lto o (ne_addr (by omega))
 have Ac:=fun o=>hG B lto (o+1) ne_off
 clear hG
 simp only[List.take_succ_cons,List.take_zero,List.drop_succ_cons,List.drop_zero]
 repeat (first|(refine wpTurn_pure rfl (fun K hK => ?_);go_simp;first|(refine hK _ _ ?_;clear hK K)|(apply Exists.intro;refine⟨fun _ _ => ?_,hK _ _ ?_⟩;(first|fail);clear hK K))|(refine wpTurn_eff rfl (fun K hK => ?_);go_simp;(first|(first|with_reducible refine⟨_,_,fun _=>tur_st (St.turn Ai (Trn.kp An kpw)) (fun w h=>Tx.out w h),?_⟩|with_reducible refine⟨_,_,fun _=>tur_st (St.turn Ai (Trn.kp An kpw)) (fun w h=>TR.out w h),?_⟩));refine hK _ _ ?_;clear hK K))
 refine wpTurn_nil ?_
 intro w27 A3
 clear Ac As Ad Af Ag B7 B4 B5
 have Bd:=A3.size_le
 (try simp at Bd)
 have De:=tn5 A3 (w.heap.size)
 have C6:=tn5 A3 (w.heap.size+1)
 have Cz:=tn5 A3 (w1.heap.size)
 have D0:=tn5 A3 (w2.heap.size)
 have C7:=tn5 A3 (B2)
 have C4:=tn5 A3 (w25.heap.size)
 have C5:=tn5 A3 (w26.heap.size)
 obtain⟨E1,Ds,Dz,E8,Ei,Ee⟩:=rkx Ao An kpw A3
 (try clear Cw)
 repeat' (first|go_values|go_skip|go_guarded|go_step|go_upon|(simp only[];go_simp))
 (with_reducible show bodyPost _ _ _ _ _ _);refine bodyPost_ret (by simp[results,Tryz.results103,go_sem, *];first|done|rfl) rfl ?_
 exact⟨rfl,trw⟩
set_option maxHeartbeats 4000000 in
theorem rReflected_any (A:Ask) (hA:AskOk A) (w:World) (hr:Row A.pa A.ls w) :
  Calls Tryz.prog 33 #[A.val] w fun E w'=>E = .returned (.tuple #[.agg #[.int .i64 (ampR A false).a,.int .i64 (ampR A false).b,.int .i64 (ampR A false).c],.int .i64 (ampR A false).q])∧Below w.heap.size w w':=by
 have AM:=fun B=>r_amp B A hA
 generalize ampR A false=R at *
 unfold RLG Ask.val at AM
 unfold Ask.val
 have AM:=Lib.hid AM
 have HR:=Lib.hid hr
 have HP:=Lib.hid hr.blk
 clear hr hA
 go_enter Tryz.func33,Tryz.ntmps33
 go_wp2_with fail
 refine(AM.out (w.heap.size+1+1) _ ⟨⟨by go_simp,by go_simp,by simp⟩,HR.out.bel blw,fun a h hl=>by have:=HP.out a h hl;omega⟩).mono ?_
 rintro e w1 ⟨rfl,A8⟩
 have At:=A8.size_le
 (try simp at At)
 have E9:Below w.heap.size w w1:=Below.trans (show Below w.heap.size w _ from blw) (A8.below (by omega) (by simp;omega))
 have S1:=St.turn (e:=0) ⟨by go_simp,by go_simp,by simp⟩ A8
 have Eo:=S1.cell
 have Eq:=S1.free
 have Ew:=S1.lt
 have A7:=fun o=>A8.other (k:=w.heap.size+1) (o:=o) (by first|(simp;done)|(simp;omega)) (ne_addr (by omega))
 have Ae:=fun o=>A8.free (k:=w.heap.size+1) (o:=o) (by first|(simp;done)|(simp;omega))
 have s0:w1.cell? ⟨w.heap.size+1,0,none⟩=some (.int .i64 0):=(A7 0).trans (by go_simp)
 have s1:w1.cell? ⟨w.heap.size+1,1,none⟩=some (.int .i64 0):=(A7 1).trans (by go_simp)
 have s2:w1.cell? ⟨w.heap.size+1,2,none⟩=some (.int .i64 0):=(A7 2).trans (by go_simp)
 have sf:∀o,w1.frozen? ⟨w.heap.size+1,o,none⟩=false:=fun o=>(Ae o).trans (by go_simp)
 clear A7 Ae
 have n0:w.heap.size+1<w1.heap.size:=by omega
 have n1:¬w.heap.size+1=w1.heap.size:=by omega
 have n2:¬w.heap.size+1+1=w1.heap.size:=by omega
 have n3:w.heap.size+1<w1.heap.size+1:=by omega
 have n4:w.heap.size+1+1<w1.heap.size+1:=by omega
 go_wp2_with fail
 (go_region_held3 (fun w'=>w'.cell? ⟨w.heap.size+1+1,0,none⟩=some (.int .i64 R.q)∧w'.cell? ⟨w1.heap.size,0,none⟩=some (.int .i64 R.a)∧w'.cell? ⟨w1.heap.size,1,none⟩=some (.int .i64 R.b)∧w'.cell? ⟨w1.heap.size,2,none⟩=some (.int .i64 R.c)) (simp[*,go_sem]) (fail))
 repeat' (first|go_values|go_skip|go_guarded|go_step|go_upon|(simp only[];go_simp))
 (with_reducible show bodyPost _ _ _ _ _ _);refine bodyPost_ret (by simp[results,Tryz.results33,go_sem, *];first|done|rfl) rfl ?_
 exact⟨rfl,blw⟩
end Go.Proofs.YtnljkhlmdacfaaaGreatDoor
