/- The transmitted amplitude: the program's walk (gen_ampyes.py). -/
import Derived.Test.YtllpncmpofhgmaaGreatKRefl
import Derived.Test.YtllpncmpofhgmaaGreatThroughYes
namespace Go.Proofs.YtllpncmpofhgmaaGreat
open Go Go.Sort Go.RowKit
theorem amp_is2 {A:Ask}{y l b1 b c1 c a d z x:Res}{t:Thr} (hy:Is y (admR 0 A (A.med 0))) (ht:t=thrR y.q A true) (hl:Is l (admR t.q A (A.med (A.ls.length+1)))) (h1:Is b1 (after l.q (ti t.p.m1 l))) (h2:Is b (after b1.q (pl t.p.m0 b1)))
  (h3:Is c1 (after b.q (ti t.p.m3 l))) (h4:Is c (after c1.q (pl t.p.m2 c1))) (h5:Is a (after c.q (ti y b))) (h6:Is d (after a.q (pl a c))) (h7:Is z (after d.q (pl y y))) (h8:Is x (after z.q (ti z t.f))):Is (ampR A true) (after x.q (qt x d)):=by
 cases hy;subst ht;cases hl;cases h1;cases h2;cases h3;cases h4;cases h5;cases h6;cases h7;cases h8;unfold ampR Is;simp
set_option maxRecDepth 100000 in
set_option maxHeartbeats 16000000 in
theorem amp_yes (B:Nat) (A:Ask) (hA:AskOk A):LGives 30 #[.pointer (some ⟨B,0,none⟩),.bool true] B 0 A (ampR A true):=by
 intro w B8
 have hlen:=hA.len
 have M0:=med_front A hA
 have M1:=med_last A hA
 obtain⟨Y,hY⟩:=is_ex (admR 0 A (A.med 0))
 have fY:Fine Y:=hY.fine (fine_adm _ _ _)
 obtain⟨t,ht⟩:∃t,t=thrR Y.q A true:=⟨_,rfl⟩
 have ft:t.p.fine∧Fine t.f:=by rw[ht];unfold thrR;exact run_fine _ _ ones fine_oneR
 obtain⟨L,hL⟩:=is_ex (admR t.q A (A.med (A.ls.length+1)))
 have fL:Fine L:=hL.fine (fine_adm _ _ _)
 obtain⟨b1,hb1⟩:=is_ex (after L.q (ti t.p.m1 L))
 have fb1:Fine b1:=hb1.fine (fine_after _ (fine_ti _ _))
 obtain⟨b,hb⟩:=is_ex (after b1.q (pl t.p.m0 b1))
 have fb:Fine b:=hb.fine (fine_after _ (fine_pl _ _))
 obtain⟨c1,hc1⟩:=is_ex (after b.q (ti t.p.m3 L))
 have fc1:Fine c1:=hc1.fine (fine_after _ (fine_ti _ _))
 obtain⟨c,hc⟩:=is_ex (after c1.q (pl t.p.m2 c1))
 have fc:Fine c:=hc.fine (fine_after _ (fine_pl _ _))
 obtain⟨a,ha⟩:=is_ex (after c.q (ti Y b))
 have fa:Fine a:=ha.fine (fine_after _ (fine_ti _ _))
 obtain⟨d,hd⟩:=is_ex (after a.q (pl a c))
 have fd:Fine d:=hd.fine (fine_after _ (fine_pl _ _))
 obtain⟨z,hz⟩:=is_ex (after d.q (pl Y Y))
 have fz:Fine z:=hz.fine (fine_after _ (fine_pl _ _))
 obtain⟨x,hx⟩:=is_ex (after z.q (ti z t.f))
 have fx:Fine x:=hx.fine (fine_after _ (fine_ti _ _))
 have HR:=amp_is2 hY ht hL hb1 hb hc1 hc ha hd hz hx
 obtain⟨R,hR⟩:=is_ex (after x.q (qt x d))
 rw[HR.out,← hR.out]
 have AD0:=(adm_any B 0 A 0 _ hA M0).to (by rw[med_zero]at hY;exact hY)
 have TH:=fun w L=>through_yes B Y.q A hA t (by rw[ht];unfold HidT thrR;rw[List.drop_zero]) w L
 have AD1:=(adm_any B t.q A (A.ls.length+1) _ hA M1).to (by rw[med_past]at hL;exact hL)
 clear HR ht hY hL M0 M1
 obtain⟨⟨P0,P1,P2,P3⟩,F,tq⟩:=t
 obtain⟨⟨fP0,fP1,fP2,fP3⟩,fF⟩:=ft
 simp only[Mat.cells]at hb1 hb hc1 hc hx AD1 TH fP0 fP1 fP2 fP3 fF
 have Tb1:=Lib.hid ((c_times B L.q P1 L fP1 fL).to hb1)
 have Tb:=Lib.hid ((c_plus B b1.q P0 b1 fP0 fb1).to hb)
 have Tc1:=Lib.hid ((c_times B b.q P3 L fP3 fL).to hc1)
 have Tc:=Lib.hid ((c_plus B c1.q P2 c1 fP2 fc1).to hc)
 have Ta:=Lib.hid ((c_times B c.q Y b fY fb).to ha)
 have Td:=Lib.hid ((c_plus B a.q a c fa fc).to hd)
 have Tz:=Lib.hid ((c_plus B d.q Y Y fY fY).to hz)
 have Tx:=Lib.hid ((c_times B z.q z F fz fF).to hx)
 have TR:=Lib.hid ((c_by B x.q x d fx fd).to hR)
 have AD0:=Lib.hid AD0
 have AD1:=Lib.hid AD1
 have TH:=Lib.hid TH
 clear hA hb1 hb hc1 hc ha hd hz hx hR fb1 fb fc1 fc fa fd fz fx fY fL fP0 fP1 fP2 fP3 fF
 have hw1:wrap64 ((A.ls.length:Int)+1)=A.ls.length+1:=IntWalk.wrap64_in _ ⟨by omega,by omega⟩
 have hw2:IntKind.i64.wrap ((A.ls.length:Int)+1)=A.ls.length+1:=IntWalk.i64_in _ ⟨by omega,by omega⟩
 have Az:=B8.st
 have E5:=tr_refl Az
 obtain⟨Dw,Dx,Dy,Dz,E0,E1,E2,E3,E4⟩:=B8.cells
 have Ev:=Az.cell
 have Ew:=Az.free
 have Fb:=Az.lt
 have Fa:=own5 Fb
 go_enter Tryz.func30,Tryz.ntmps30
 go_wp2_with fail
 refine(AD0.out _ (Lt.turn B8 (Trn.kp E5 kpw))).mono ?_
 rintro e w1 ⟨rfl,Bc⟩
 have Cy:=Bc.size_le
 (try simp at Cy)
 have Bv:=tn5 Bc (w.heap.size)
 obtain⟨Cg,Ee,Em,Ex,F6,Dk⟩:=pkx B8 E5 kpw Bc
 (try clear Ev Ew Dw Dx Dy Dz E0 E1 E2 E3 E4 Fa)
 go_wp2_with fail
 refine(TH.out _ (Lt.turn B8 (Trn.kp Cg kpw))).mono ?_
 rintro e w2 ⟨rfl,B7⟩
 have Cz:=B7.size_le
 (try simp at Cz)
 have Bw:=tn5 B7 (w.heap.size)
 have Bg:=tn5 B7 (w1.heap.size)
 obtain⟨Ch,Ef,En,Ey,F7,Dl⟩:=pkx B8 Cg kpw B7
 (try clear Dk)
 go_wp2_with fail
 refine(AD1.out _ (Lt.turn B8 (Trn.kp Ch kpw))).mono ?_
 rintro e w3 ⟨rfl,Ar⟩
 have D0:=Ar.size_le
 (try simp at D0)
 have Au:=tn5 Ar (w.heap.size)
 have Af:=tn5 Ar (w1.heap.size)
 have Ag:=tn5 Ar (w2.heap.size)
 have A6:=tn5 Ar (w2.heap.size+1)
 obtain⟨Be,Eg,Eo,Ez,F8,Dm⟩:=pkx B8 Ch kpw Ar
 (try clear Dl)
 replace Au:=cas5 Au [.complex .f64 0 0,.int .i64 0]
 replace Af:=cas5 Af [.complex .f64 (fl Y.a) (fl Y.b),.int .i64 Y.c]
 replace Ag:=cas5 Ag [.complex .f64 (fl P0.a) (fl P0.b),.int .i64 P0.c,.complex .f64 (fl P1.a) (fl P1.b),.int .i64 P1.c,.complex .f64 (fl P2.a) (fl P2.b),.int .i64 P2.c,.complex .f64 (fl P3.a) (fl P3.b),.int .i64 P3.c]
 replace A6:=cas5 A6 [.complex .f64 (fl F.a) (fl F.b),.int .i64 F.c]
 simp only[CAf,Nat.reduceAdd,and_true]at Au Af Ag A6
 (try clear Bv Bw Bg)
 go_wp2_with fail
 refine turn_new (fun i=>i==11||i==12) 13 #[.complex .f64 0 0,.int .i64 0] 37 _ rfl (by kernel_rfl) (by kernel_rfl) (by first|omega|(simp;omega)) (St.cell (St.turn Az (Trn.kp Be kpw))) (fun a w=>by kernel_rfl) fun hG => ?_
 have At:=fun o=>hG (w.heap.size) lto o (ne_addr (by omega))
 have Aa:=fun o=>hG (w1.heap.size) lto o (ne_addr (by omega))
 have Ba:=fun o=>hG (w2.heap.size) lto o (ne_addr (by omega))
 have A4:=fun o=>hG (w2.heap.size+1) lto o (ne_addr (by omega))
 have Bb:=fun o=>hG (w3.heap.size) lto o (ne_addr (by omega))
 have A5:=fun o=>hG B lto (o+1) ne_off
 clear hG
 simp only[List.take_succ_cons,List.take_zero,List.drop_succ_cons,List.drop_zero]
 repeat (first|(refine wpTurn_pure rfl (fun K hK => ?_);go_simp;first|(refine hK _ _ ?_;clear hK K)|(apply Exists.intro;refine⟨fun _ _ => ?_,hK _ _ ?_⟩;(first|fail);clear hK K))|(refine wpTurn_eff rfl (fun K hK => ?_);go_simp;(first|(first|with_reducible refine⟨_,_,fun _=>tur_st (St.turn Az (Trn.kp Be kpw)) (fun w h=>Tb1.out w h),?_⟩|with_reducible refine⟨_,_,fun _=>tur_st (St.turn Az (Trn.kp Be kpw)) (fun w h=>Tb.out w h),?_⟩));refine hK _ _ ?_;clear hK K))
 refine wpTurn_nil ?_
 intro B1 w4 hN
 obtain⟨Am,A1,Dg,E6,Ea⟩:=hN
 (try simp at A1)
 clear A5 At Aa Ba A4 Bb
 have D1:=Am.size_le
 (try simp at D1)
 have Av:=tn5 Am (w.heap.size)
 have Ah:=tn5 Am (w1.heap.size)
 have Ai:=tn5 Am (w2.heap.size)
 have A7:=tn5 Am (w2.heap.size+1)
 have Aj:=tn5 Am (w3.heap.size)
 obtain⟨Bf,Eh,Ep,F0,Ds,Dn⟩:=pkx B8 Be kpw Am
 (try clear Dm)
 have Db:¬B1=w.heap.size:=by first|omega|(simp at A1;omega)
 have D7:¬w.heap.size=B1:=by first|omega|(simp at A1;omega)
 have Cq:¬B1=w1.heap.size:=by first|omega|(simp at A1;omega)
 have Ci:¬w1.heap.size=B1:=by first|omega|(simp at A1;omega)
 have Cr:¬B1=w2.heap.size:=by first|omega|(simp at A1;omega)
 have Cj:¬w2.heap.size=B1:=by first|omega|(simp at A1;omega)
 have Br:¬B1=w2.heap.size+1:=by first|omega|(simp at A1;omega)
 have Bn:¬w2.heap.size+1=B1:=by first|omega|(simp at A1;omega)
 have Cs:¬B1=w3.heap.size:=by first|omega|(simp at A1;omega)
 have Ck:¬w3.heap.size=B1:=by first|omega|(simp at A1;omega)
 have C6:¬B1=B:=by first|omega|(simp at A1;omega)
 have Bx:¬B=B1:=by first|omega|(simp at A1;omega)
 replace Av:=cas5 Av [.complex .f64 0 0,.int .i64 0]
 replace Ah:=cas5 Ah [.complex .f64 (fl Y.a) (fl Y.b),.int .i64 Y.c]
 replace Ai:=cas5 Ai [.complex .f64 (fl P0.a) (fl P0.b),.int .i64 P0.c,.complex .f64 (fl P1.a) (fl P1.b),.int .i64 P1.c,.complex .f64 (fl P2.a) (fl P2.b),.int .i64 P2.c,.complex .f64 (fl P3.a) (fl P3.b),.int .i64 P3.c]
 replace Aj:=cas5 Aj [.complex .f64 (fl L.a) (fl L.b),.int .i64 L.c]
 replace A7:=cas5 A7 [.complex .f64 (fl F.a) (fl F.b),.int .i64 F.c]
 simp only[CAf,Nat.reduceAdd,and_true]at Av Ah Ai Aj A7
 (try clear Au Af Ag A6)
 go_wp2_with fail
 refine turn_new (fun i=>i==11||i==12) 13 #[.complex .f64 0 0,.int .i64 0] 37 _ rfl (by kernel_rfl) (by kernel_rfl) (by first|omega|(simp;omega)) (St.cell (St.turn Az (Trn.kp Bf kpw))) (fun a w=>by kernel_rfl) fun hG => ?_
 have At:=fun o=>hG (w.heap.size) lto o (ne_addr (by omega))
 have Aa:=fun o=>hG (w1.heap.size) lto o (ne_addr (by omega))
 have Ba:=fun o=>hG (w2.heap.size) lto o (ne_addr (by omega))
 have A4:=fun o=>hG (w2.heap.size+1) lto o (ne_addr (by omega))
 have Bb:=fun o=>hG (w3.heap.size) lto o (ne_addr (by omega))
 have B0:=fun o=>hG (B1) lto o (ne_addr (by omega))
 have A5:=fun o=>hG B lto (o+1) ne_off
 clear hG
 simp only[List.take_succ_cons,List.take_zero,List.drop_succ_cons,List.drop_zero]
 repeat (first|(refine wpTurn_pure rfl (fun K hK => ?_);go_simp;first|(refine hK _ _ ?_;clear hK K)|(apply Exists.intro;refine⟨fun _ _ => ?_,hK _ _ ?_⟩;(first|fail);clear hK K))|(refine wpTurn_eff rfl (fun K hK => ?_);go_simp;(first|(first|with_reducible refine⟨_,_,fun _=>tur_st (St.turn Az (Trn.kp Bf kpw)) (fun w h=>Tc1.out w h),?_⟩|with_reducible refine⟨_,_,fun _=>tur_st (St.turn Az (Trn.kp Bf kpw)) (fun w h=>Tc.out w h),?_⟩));refine hK _ _ ?_;clear hK K))
 refine wpTurn_nil ?_
 intro B2 w5 hN
 obtain⟨Ae,A0,Dh,E7,Eb⟩:=hN
 (try simp at A0)
 clear A5 At Aa Ba A4 Bb B0
 have D2:=Ae.size_le
 (try simp at D2)
 have Aw:=tn5 Ae (w.heap.size)
 have Ak:=tn5 Ae (w1.heap.size)
 have Bh:=tn5 Ae (w2.heap.size)
 have A8:=tn5 Ae (w2.heap.size+1)
 have Bi:=tn5 Ae (w3.heap.size)
 have Ab:=tn5 Ae (B1)
 obtain⟨Bj,Ei,Eq,F1,Dt,Do⟩:=pkx B8 Bf kpw Ae
 (try clear Dn Ds)
 have Dc:¬B2=w.heap.size:=by first|omega|(simp at A0;omega)
 have D8:¬w.heap.size=B2:=by first|omega|(simp at A0;omega)
 have Ct:¬B2=w1.heap.size:=by first|omega|(simp at A0;omega)
 have Cl:¬w1.heap.size=B2:=by first|omega|(simp at A0;omega)
 have Cu:¬B2=w2.heap.size:=by first|omega|(simp at A0;omega)
 have Cm:¬w2.heap.size=B2:=by first|omega|(simp at A0;omega)
 have Bs:¬B2=w2.heap.size+1:=by first|omega|(simp at A0;omega)
 have Bo:¬w2.heap.size+1=B2:=by first|omega|(simp at A0;omega)
 have Cv:¬B2=w3.heap.size:=by first|omega|(simp at A0;omega)
 have Cn:¬w3.heap.size=B2:=by first|omega|(simp at A0;omega)
 have C8:¬B2=B1:=by first|omega|(simp at A0;omega)
 have Bz:¬B1=B2:=by first|omega|(simp at A0;omega)
 have C7:¬B2=B:=by first|omega|(simp at A0;omega)
 have By:¬B=B2:=by first|omega|(simp at A0;omega)
 replace Aw:=cas5 Aw [.complex .f64 0 0,.int .i64 0]
 replace Ak:=cas5 Ak [.complex .f64 (fl Y.a) (fl Y.b),.int .i64 Y.c]
 replace Ab:=cas5 Ab [.complex .f64 (fl b.a) (fl b.b),.int .i64 b.c]
 replace A8:=cas5 A8 [.complex .f64 (fl F.a) (fl F.b),.int .i64 F.c]
 simp only[CAf,Nat.reduceAdd,and_true]at Aw Ak Ab A8
 (try clear Av Ah Ai A7 Aj)
 go_wp2_with fail
 refine turn_new (fun i=>i==5) 6 #[.complex .f64 0 0,.int .i64 0] 37 _ rfl (by kernel_rfl) (by kernel_rfl) (by first|omega|(simp;omega)) (St.cell (St.turn Az (Trn.kp Bj kpw))) (fun a w=>by kernel_rfl) fun hG => ?_
 have At:=fun o=>hG (w.heap.size) lto o (ne_addr (by omega))
 have Aa:=fun o=>hG (w1.heap.size) lto o (ne_addr (by omega))
 have A4:=fun o=>hG (w2.heap.size+1) lto o (ne_addr (by omega))
 have B0:=fun o=>hG (B1) lto o (ne_addr (by omega))
 have B5:=fun o=>hG (B2) lto o (ne_addr (by omega))
 have A5:=fun o=>hG B lto (o+1) ne_off
 clear hG
 simp only[List.take_succ_cons,List.take_zero,List.drop_succ_cons,List.drop_zero]
 repeat (first|(refine wpTurn_pure rfl (fun K hK => ?_);go_simp;first|(refine hK _ _ ?_;clear hK K)|(apply Exists.intro;refine⟨fun _ _ => ?_,hK _ _ ?_⟩;(first|fail);clear hK K))|(refine wpTurn_eff rfl (fun K hK => ?_);go_simp;(first|(with_reducible refine⟨_,_,fun _=>tur_st (St.turn Az (Trn.kp Bj kpw)) (fun w h=>Ta.out w h),?_⟩));refine hK _ _ ?_;clear hK K))
 refine wpTurn_nil ?_
 intro B3 w6 hN
 obtain⟨An,A2,Di,E8,Ec⟩:=hN
 (try simp at A2)
 clear A5 At Aa A4 B0 B5
 have D3:=An.size_le
 (try simp at D3)
 have Ax:=tn5 An (w.heap.size)
 have Al:=tn5 An (w1.heap.size)
 have A9:=tn5 An (w2.heap.size+1)
 have Bd:=tn5 An (B1)
 have Ac:=tn5 An (B2)
 obtain⟨Bk,Ej,Er,F2,Du,Dp⟩:=pkx B8 Bj kpw An
 (try clear Do Dt)
 have Dd:¬B3=w.heap.size:=by first|omega|(simp at A2;omega)
 have D9:¬w.heap.size=B3:=by first|omega|(simp at A2;omega)
 have Cw:¬B3=w1.heap.size:=by first|omega|(simp at A2;omega)
 have Co:¬w1.heap.size=B3:=by first|omega|(simp at A2;omega)
 have Bt:¬B3=w2.heap.size+1:=by first|omega|(simp at A2;omega)
 have Bp:¬w2.heap.size+1=B3:=by first|omega|(simp at A2;omega)
 have Ca:¬B3=B1:=by first|omega|(simp at A2;omega)
 have C1:¬B1=B3:=by first|omega|(simp at A2;omega)
 have Cb:¬B3=B2:=by first|omega|(simp at A2;omega)
 have C2:¬B2=B3:=by first|omega|(simp at A2;omega)
 have C9:¬B3=B:=by first|omega|(simp at A2;omega)
 have C0:¬B=B3:=by first|omega|(simp at A2;omega)
 replace Ax:=cas5 Ax [.complex .f64 0 0,.int .i64 0]
 replace Al:=cas5 Al [.complex .f64 (fl Y.a) (fl Y.b),.int .i64 Y.c]
 replace Ac:=cas5 Ac [.complex .f64 (fl c.a) (fl c.b),.int .i64 c.c]
 replace A9:=cas5 A9 [.complex .f64 (fl F.a) (fl F.b),.int .i64 F.c]
 simp only[CAf,Nat.reduceAdd,and_true]at Ax Al Ac A9
 (try clear Aw Ak Bh A8 Bi Ab)
 go_wp2_with fail
 refine turn_new (fun i=>i==5) 6 #[.complex .f64 0 0,.int .i64 0] 37 _ rfl (by kernel_rfl) (by kernel_rfl) (by first|omega|(simp;omega)) (St.cell (St.turn Az (Trn.kp Bk kpw))) (fun a w=>by kernel_rfl) fun hG => ?_
 have At:=fun o=>hG (w.heap.size) lto o (ne_addr (by omega))
 have Aa:=fun o=>hG (w1.heap.size) lto o (ne_addr (by omega))
 have A4:=fun o=>hG (w2.heap.size+1) lto o (ne_addr (by omega))
 have B5:=fun o=>hG (B2) lto o (ne_addr (by omega))
 have Bl:=fun o=>hG (B3) lto o (ne_addr (by omega))
 have A5:=fun o=>hG B lto (o+1) ne_off
 clear hG
 simp only[List.take_succ_cons,List.take_zero,List.drop_succ_cons,List.drop_zero]
 repeat (first|(refine wpTurn_pure rfl (fun K hK => ?_);go_simp;first|(refine hK _ _ ?_;clear hK K)|(apply Exists.intro;refine⟨fun _ _ => ?_,hK _ _ ?_⟩;(first|fail);clear hK K))|(refine wpTurn_eff rfl (fun K hK => ?_);go_simp;(first|(with_reducible refine⟨_,_,fun _=>tur_st (St.turn Az (Trn.kp Bk kpw)) (fun w h=>Td.out w h),?_⟩));refine hK _ _ ?_;clear hK K))
 refine wpTurn_nil ?_
 intro B4 w7 hN
 obtain⟨Ao,A3,Dj,E9,Ed⟩:=hN
 (try simp at A3)
 clear A5 At Aa A4 B5 Bl
 have D4:=Ao.size_le
 (try simp at D4)
 have B6:=tn5 Ao (w.heap.size)
 have Ay:=tn5 Ao (w1.heap.size)
 have Ad:=tn5 Ao (w2.heap.size+1)
 have Ap:=tn5 Ao (B2)
 have Aq:=tn5 Ao (B3)
 obtain⟨B9,Ek,Es,F3,Dv,Dq⟩:=pkx B8 Bk kpw Ao
 (try clear Dp Du)
 have De:¬B4=w.heap.size:=by first|omega|(simp at A3;omega)
 have Da:¬w.heap.size=B4:=by first|omega|(simp at A3;omega)
 have Cx:¬B4=w1.heap.size:=by first|omega|(simp at A3;omega)
 have Cp:¬w1.heap.size=B4:=by first|omega|(simp at A3;omega)
 have Bu:¬B4=w2.heap.size+1:=by first|omega|(simp at A3;omega)
 have Bq:¬w2.heap.size+1=B4:=by first|omega|(simp at A3;omega)
 have Cd:¬B4=B2:=by first|omega|(simp at A3;omega)
 have C4:¬B2=B4:=by first|omega|(simp at A3;omega)
 have Ce:¬B4=B3:=by first|omega|(simp at A3;omega)
 have C5:¬B3=B4:=by first|omega|(simp at A3;omega)
 have Cc:¬B4=B:=by first|omega|(simp at A3;omega)
 have C3:¬B=B4:=by first|omega|(simp at A3;omega)
 replace B6:=cas5 B6 [.complex .f64 0 0,.int .i64 0]
 replace Ay:=cas5 Ay [.complex .f64 (fl Y.a) (fl Y.b),.int .i64 Y.c]
 replace Ap:=cas5 Ap [.complex .f64 (fl c.a) (fl c.b),.int .i64 c.c]
 replace Aq:=cas5 Aq [.complex .f64 (fl a.a) (fl a.b),.int .i64 a.c]
 replace Ad:=cas5 Ad [.complex .f64 (fl F.a) (fl F.b),.int .i64 F.c]
 simp only[CAf,Nat.reduceAdd,and_true]at B6 Ay Ap Aq Ad
 (try clear Ax Al A9 Bd Ac)
 go_wp2_with fail
 refine turn (fun i=>i==11||i==13||i==15) 16 (by kernel_rfl) (by kernel_rfl) (St.cell (St.turn Az (Trn.kp B9 kpw))) fun hG => ?_
 have At:=fun o=>hG (w.heap.size) lto o (ne_addr (by omega))
 have Aa:=fun o=>hG (w1.heap.size) lto o (ne_addr (by omega))
 have A4:=fun o=>hG (w2.heap.size+1) lto o (ne_addr (by omega))
 have Bm:=fun o=>hG (B4) lto o (ne_addr (by omega))
 have A5:=fun o=>hG B lto (o+1) ne_off
 clear hG
 simp only[List.take_succ_cons,List.take_zero,List.drop_succ_cons,List.drop_zero]
 repeat (first|(refine wpTurn_pure rfl (fun K hK => ?_);go_simp;first|(refine hK _ _ ?_;clear hK K)|(apply Exists.intro;refine⟨fun _ _ => ?_,hK _ _ ?_⟩;(first|fail);clear hK K))|(refine wpTurn_eff rfl (fun K hK => ?_);go_simp;(first|(first|with_reducible refine⟨_,_,fun _=>tur_st (St.turn Az (Trn.kp B9 kpw)) (fun w h=>Tz.out w h),?_⟩|with_reducible refine⟨_,_,fun _=>tur_st (St.turn Az (Trn.kp B9 kpw)) (fun w h=>Tx.out w h),?_⟩|with_reducible refine⟨_,_,fun _=>tur_st (St.turn Az (Trn.kp B9 kpw)) (fun w h=>TR.out w h),?_⟩));refine hK _ _ ?_;clear hK K))
 refine wpTurn_nil ?_
 intro w8 As
 clear A5 At Aa A4 Bm
 have D5:=As.size_le
 (try simp at D5)
 have Dr:=tn5 As (w.heap.size)
 have Df:=tn5 As (w1.heap.size)
 have Cf:=tn5 As (w2.heap.size+1)
 have D6:=tn5 As (B4)
 obtain⟨Eu,El,Et,F4,F9,F5⟩:=pkx B8 B9 kpw As
 (try clear Dq Dv)
 repeat' (first|go_values|go_skip|go_guarded|go_step|go_upon|(simp only[];go_simp))
 refine bodyPost_ret (by simp[results,Tryz.results30,go_sem, *];first|done|rfl) rfl ?_
 exact⟨rfl,trw⟩
end Go.Proofs.YtllpncmpofhgmaaGreat
