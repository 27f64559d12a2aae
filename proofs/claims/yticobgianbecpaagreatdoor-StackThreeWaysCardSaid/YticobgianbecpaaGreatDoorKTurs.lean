/- Joined: TurA TurB TurC. -/
import Derived.Test.YticobgianbecpaaGreatDoorKMed
namespace Go.Proofs.YticobgianbecpaaGreatDoor
open Go Go.Sort Go.RowKit
set_option maxHeartbeats 8000000 in
theorem turning_A (B:Nat) (e:Int) (A:Ask) (n:Int) (b:Box) (j:Nat) (hj:A.ls[j]?=some b) (hn:n=j+1) (hp:TurPre A b) (Q:Res) (st:Bool) (NO:NGives n B e A Q st) (fQ:Fine Q) (p0 p1 p2 p3:Int)
  (h0:pt Q.q (Q.a-Q.c)=p0) (h1:pt Q.q (Q.a+Q.c)=p1) (h2:pt Q.q (Q.b-Q.c)=p2) (h3:pt Q.q (Q.b+Q.c)=p3) (hl:¬b.lo=0) (w:World) (Am:Lt B e A w) :
  Calls Tryz.prog 124 #[.pointer (some ⟨B,0,none⟩),.int .i64 n] w fun E w' =>
   E = .returned (.agg #[.int .i64 (dn (4*pos p0*b.tl) A.wh),.int .i64 (up (4*pos p1*b.th) A.wl),.int .i64 (dn (4*pos p2*b.tl) A.wh),.int .i64 (up (4*pos p3*b.th) A.wl)])∧Trn B Q.q w w':=by
 have hb:=pt_bd fQ
 rw[h0,h1,h2,h3]at hb
 have PA:=Lib.hid (fun w S=>parts_to B Q fQ p0 p1 p2 p3 h0 h1 h2 h3 w S)
 have NO:=Lib.hid NO
 clear h0 h1 h2 h3
 obtain⟨⟨a0,a1⟩,⟨a2,a3⟩,⟨a4,a5⟩,a6,a7⟩:=hb
 obtain⟨t0,t1,t2,t3,w0,w1,w2,w3,ln⟩:=hp
 have M0:=mul4_bd (p:=p0) a1 t0 t1
 have P0:=pos_bd p0 a1
 have V0:IntKind.i64.wrap (4*pos p0)=4*pos p0:=IntWalk.i64_in _ ⟨by omega,by omega⟩
 have W0:IntKind.i64.wrap (4*pos p0*b.tl)=4*pos p0*b.tl:=IntWalk.i64_in _ ⟨by omega,by omega⟩
 have M1:=mul4_bd (p:=p1) a3 t2 t3
 have P1:=pos_bd p1 a3
 have V1:IntKind.i64.wrap (4*pos p1)=4*pos p1:=IntWalk.i64_in _ ⟨by omega,by omega⟩
 have W1:IntKind.i64.wrap (4*pos p1*b.th)=4*pos p1*b.th:=IntWalk.i64_in _ ⟨by omega,by omega⟩
 have M2:=mul4_bd (p:=p2) a5 t0 t1
 have P2:=pos_bd p2 a5
 have V2:IntKind.i64.wrap (4*pos p2)=4*pos p2:=IntWalk.i64_in _ ⟨by omega,by omega⟩
 have W2:IntKind.i64.wrap (4*pos p2*b.tl)=4*pos p2*b.tl:=IntWalk.i64_in _ ⟨by omega,by omega⟩
 have M3:=mul4_bd (p:=p3) a7 t2 t3
 have P3:=pos_bd p3 a7
 have V3:IntKind.i64.wrap (4*pos p3)=4*pos p3:=IntWalk.i64_in _ ⟨by omega,by omega⟩
 have W3:IntKind.i64.wrap (4*pos p3*b.th)=4*pos p3*b.th:=IntWalk.i64_in _ ⟨by omega,by omega⟩
 have hl1:(b.lo != 0)=true:=by simpa using hl
 have hjl:j<A.ls.length:=(List.getElem?_eq_some_iff.1 hj).1
 obtain⟨a,ha,hlt,b1,b2,b3,b4,b5⟩:=Am.row.get j b hj
 have hne:¬(a.add (j*5)).block=B:=by rw[block_add];exact Am.sep _ ha
 subst hn
 clear hj fQ hl a0 a1 a2 a3 a4 a5 a6 a7
 have B6:=Am.st
 have Cy:=tr_refl B6
 obtain⟨Ca,Cc,Ce,Cg,Ci,Ck,Cm,Cn,Cp⟩:=Am.cells
 have Dj:=B6.cell
 have Dk:=B6.free
 have E0:=B6.lt
 have El:=own5 E0
 go_enter Tryz.func124,Tryz.ntmps124
 go_wp2_with fail
 refine(NO.out _ (Lt.turn Am (Trn.kp Cy kpw))).mono ?_
 rintro e w1 ⟨rfl,Ar⟩
 have Bi:=Ar.size_le
 (try simp at Bi)
 have B4:=tn5 Ar (w.heap.size)
 obtain⟨B0,Db,Df,Dl,Dp,C6⟩:=pkx Am Cy kpw Ar
 (try clear Dj Dk Ca Cc Ce Cg Ci Ck Cm Cn Cp)
 go_wp2_with fail
 refine turn_new (fun i=>i==4) 5 #[.int .i64 0,.int .i64 0,.int .i64 0,.int .i64 0] 88 _ rfl (by kernel_rfl) (by kernel_rfl) (by first|omega|(simp;omega)) (St.cell (St.turn B6 (Trn.kp B0 kpw))) (fun a w=>by go_simp) fun hG => ?_
 have Aq:=fun o=>hG (w.heap.size) lto o (ne_addr (by omega))
 have Be:=fun o=>hG (w1.heap.size) lto o (ne_addr (by omega))
 have A3:=fun o=>hG B lto (o+1) ne_off
 clear hG
 simp only[List.take_succ_cons,List.take_zero,List.drop_succ_cons,List.drop_zero]
 repeat (first|(refine wpTurn_pure rfl (fun K hK => ?_);go_simp;first|(refine hK _ _ ?_;clear hK K)|(apply Exists.intro;refine⟨fun _ _ => ?_,hK _ _ ?_⟩;(first|fail);clear hK K))|(refine wpTurn_eff rfl (fun K hK => ?_);go_simp;(first|(with_reducible refine⟨_,_,fun _=>tur_st (St.turn B6 (Trn.kp B0 kpw)) (fun w h=>PA.out w h),?_⟩));refine hK _ _ ?_;clear hK K))
 refine wpTurn_nil ?_
 intro B1 w2 hN
 obtain⟨Ag,A0,C3,At,Bn⟩:=hN
 (try simp at A0)
 clear A3 Aq Be
 have Bj:=Ag.size_le
 (try simp at Bj)
 have B5:=tn5 Ag (w.heap.size)
 have Bq:=tn5 Ag (w1.heap.size)
 have Bd:=Trn.nx B0 kpw Ag
 have D3:=Bd.le
 have Cr:=Lt.turn Am Bd
 have By:=Cr.st
 obtain⟨Ds,Dt,Du,Dv,Dw,Dx,Cz,Dy,Dz⟩:=Cr.cells
 have Eb:=By.cell
 have Ec:=By.free
 have Ek:=By.lt
 have Em:=own5 Ek
 (try clear C6)
 have Bp:¬B1=w.heap.size:=by first|omega|(simp at A0;omega)
 have Bo:¬w.heap.size=B1:=by first|omega|(simp at A0;omega)
 have Bh:¬B1=w1.heap.size:=by first|omega|(simp at A0;omega)
 have Bg:¬w1.heap.size=B1:=by first|omega|(simp at A0;omega)
 have Ba:¬B1=B:=by first|omega|(simp at A0;omega)
 have B9:¬B=B1:=by first|omega|(simp at A0;omega)
 have Bu:w2.cell? ⟨B1,0,none⟩=some (Value.int .i64 0):=(At 0).trans (by simp)
 have Bv:w2.cell? ⟨B1,1,none⟩=some (Value.int .i64 0):=(At 1).trans (by simp)
 have Bw:w2.cell? ⟨B1,2,none⟩=some (Value.int .i64 0):=(At 2).trans (by simp)
 have Bx:w2.cell? ⟨B1,3,none⟩=some (Value.int .i64 0):=(At 3).trans (by simp)
 clear At
 obtain⟨E1,E2,E3,E4,E5⟩:=boxAt.trn ⟨b1,b2,b3,b4,b5⟩ Bd hlt hne
 clear b1 b2 b3 b4 b5
 have hB1a:¬(a.add (j*5)).block=B1:=(by omega)
 have hB1b:¬B1=(a.add (j*5)).block:=(by omega)
 have hE1:∀o,¬(⟨B1,o,none⟩:Addr)=a.add (j*5):=(fun o h=>hB1b (by rw[← h]))
 rw[ha]at Cz
 have hKK:=Nat.lt_of_lt_of_le hlt D3
 generalize A.ls.length=len at *
 have hj2:((j:Int)<len):=by omega
 go_wp2_with fail
 clear E1 E2 E3 E4 E5
 refine wp_loop_rounds 3 ?_
 rw[rounds_succ]
 go_wp2_with fail
 refine(positive_any _ _ _).mono ?_
 rintro e w3 ⟨rfl,B7⟩
 have Au:=B7.size
 (try simp at Au)
 have Ah:=bl5 B7 (w.heap.size)
 have A4:=bl5 B7 (B1)
 have Ax:=bl5 B7 (w2.heap.size)
 have D9:=bl5 B7 (w2.heap.size+1)
 obtain⟨B2,Bt,Bc,Ct,Eh,Ef⟩:=pkb Am Bd kpw B7
 (try clear Eb Ec Ds Dt Du Dv Dw Dx Cz Dy Dz)
 replace A4:=cas5 A4 [.int .i64 p0,.int .i64 p1,.int .i64 p2,.int .i64 p3]
 replace Ax:=cas5 Ax [.int .i64 b.il,.int .i64 b.ih,.int .i64 b.tl,.int .i64 b.th,.int .i64 b.lo]
 replace Ah:=cas5 Ah [.int .i64 0,.int .i64 0,.int .i64 0,.int .i64 0]
 simp only[CAf,Nat.reduceAdd,and_true]at A4 Ax Ah
 (try clear B4 B5 Bu Bv Bw Bx)
 go_wp2_with fail
 refine calm 31 (by kernel_rfl) (by kernel_rfl) fun hG => ?_
 have Aq:=hG (w.heap.size) lto
 have Ae:=hG (B1) lto
 have C1:=hG (w2.heap.size) lto
 have Cu:=hG (w2.heap.size+1) lto
 have A3:=hG B lto
 clear hG
 simp only[List.take_succ_cons,List.take_zero,List.drop_succ_cons,List.drop_zero]
 repeat (go_big_quiet_step (first|(go_at_call 43;with_reducible exact calm_same (fun w=>sdown_any _ _ w (by omega) (by omega) (by omega)))|(go_at_call 44;with_reducible exact calm_same (fun w=>sup_any _ _ w (by omega) (by omega) (by omega) (by omega)))))
 refine wpQuiet_nil ?_
 intro w4 B8
 clear Aq Ae C1 Cu A3
 have Av:=B8.size
 (try simp at Av)
 have Ai:=bl5 B8 (w.heap.size)
 have A5:=bl5 B8 (B1)
 have Ay:=bl5 B8 (w2.heap.size)
 have Da:=bl5 B8 (w2.heap.size+1)
 obtain⟨Bz,Dc,Dg,Dm,Dq,C7⟩:=pkb Am B2 kpw B8
 (try clear Ef Eh)
 go_wp2_with fail
 rw[rounds_succ]
 replace A5:=cas5 A5 [.int .i64 p0,.int .i64 p1,.int .i64 p2,.int .i64 p3]
 replace Ay:=cas5 Ay [.int .i64 b.il,.int .i64 b.ih,.int .i64 b.tl,.int .i64 b.th,.int .i64 b.lo]
 replace Ai:=cas5 Ai [.int .i64 0,.int .i64 0,.int .i64 0,.int .i64 0]
 simp only[CAf,Nat.reduceAdd,and_true]at A5 Ay Ai
 (try clear Ah A4 Ax)
 go_wp2_with fail
 refine(positive_any _ _ _).mono ?_
 rintro e w5 ⟨rfl,A6⟩
 have Bk:=A6.size
 (try simp at Bk)
 have A8:=bl5 A6 (w.heap.size)
 have A1:=bl5 A6 (B1)
 have Az:=bl5 A6 (w2.heap.size)
 have Br:=bl5 A6 (w4.heap.size)
 obtain⟨C0,Dd,Dh,Dn,C9,C8⟩:=pkb Am Bz kpw A6
 (try clear C7)
 replace A1:=cas5 A1 [.int .i64 (dn (4*pos p0*b.tl) A.wh),.int .i64 (up (4*pos p1*b.th) A.wl),.int .i64 p2,.int .i64 p3]
 replace Az:=cas5 Az [.int .i64 b.il,.int .i64 b.ih,.int .i64 b.tl,.int .i64 b.th,.int .i64 b.lo]
 replace A8:=cas5 A8 [.int .i64 0,.int .i64 0,.int .i64 0,.int .i64 0]
 simp only[CAf,Nat.reduceAdd,and_true]at A1 Az A8
 (try clear Ai A5 Ay)
 go_wp2_with fail
 refine calm 31 (by kernel_rfl) (by kernel_rfl) fun hG => ?_
 have Aq:=hG (w.heap.size) lto
 have Ae:=hG (B1) lto
 have C1:=hG (w2.heap.size) lto
 have Bf:=hG (w4.heap.size) lto
 have A3:=hG B lto
 clear hG
 simp only[List.take_succ_cons,List.take_zero,List.drop_succ_cons,List.drop_zero]
 repeat (go_big_quiet_step (first|(go_at_call 43;with_reducible exact calm_same (fun w=>sdown_any _ _ w (by omega) (by omega) (by omega)))|(go_at_call 44;with_reducible exact calm_same (fun w=>sup_any _ _ w (by omega) (by omega) (by omega) (by omega)))))
 refine wpQuiet_nil ?_
 intro w6 A7
 clear Aq Ae C1 Bf A3
 have Bl:=A7.size
 (try simp at Bl)
 have Aa:=bl5 A7 (w.heap.size)
 have A2:=bl5 A7 (B1)
 have Bb:=bl5 A7 (w2.heap.size)
 have Bs:=bl5 A7 (w4.heap.size)
 obtain⟨Cs,De,Di,Do,Dr,Cv⟩:=pkb Am C0 kpw A7
 (try clear C8 C9)
 go_wp2_with fail
 rw[rounds_succ]
 replace A2:=cas5 A2 [.int .i64 (dn (4*pos p0*b.tl) A.wh),.int .i64 (up (4*pos p1*b.th) A.wl),.int .i64 p2,.int .i64 p3]
 replace Bb:=cas5 Bb [.int .i64 b.il,.int .i64 b.ih,.int .i64 b.tl,.int .i64 b.th,.int .i64 b.lo]
 replace Aa:=cas5 Aa [.int .i64 0,.int .i64 0,.int .i64 0,.int .i64 0]
 simp only[CAf,Nat.reduceAdd,and_true]at A2 Bb Aa
 (try clear A8 A1 Az)
 repeat' (first|go_values|go_skip|go_guarded|go_step|go_upon|(simp only[];go_simp))
 refine bodyPost_ret (by simp[results,Tryz.results124,go_sem, *];first|done|rfl) rfl ?_
 exact⟨rfl,trw⟩
end Go.Proofs.YticobgianbecpaaGreatDoor
namespace Go.Proofs.YticobgianbecpaaGreatDoor
open Go Go.Sort Go.RowKit
set_option maxHeartbeats 8000000 in
theorem turning_B (B:Nat) (e:Int) (A:Ask) (n:Int) (b:Box) (j:Nat) (hj:A.ls[j]?=some b) (hn:n=j+1) (hp:TurPre A b) (Q:Res) (st:Bool) (NO:NGives n B e A Q st) (fQ:Fine Q) (p0 p1 p2 p3:Int)
  (h0:pt Q.q (Q.a-Q.c)=p0) (h1:pt Q.q (Q.a+Q.c)=p1) (h2:pt Q.q (Q.b-Q.c)=p2) (h3:pt Q.q (Q.b+Q.c)=p3) (hl:b.lo=0) (hst:st=true) (w:World) (Am:Lt B e A w) :
  Calls Tryz.prog 124 #[.pointer (some ⟨B,0,none⟩),.int .i64 n] w fun E w' =>
   E = .returned (.agg #[.int .i64 (dn (4*pos 0*b.tl) A.wh),.int .i64 (up (4*pos 0*b.th) A.wl),.int .i64 (dn (4*pos p2*b.tl) A.wh),.int .i64 (up (4*pos p3*b.th) A.wl)])∧Trn B Q.q w w':=by
 have hb:=pt_bd fQ
 rw[h0,h1,h2,h3]at hb
 have PA:=Lib.hid (fun w S=>parts_to B Q fQ p0 p1 p2 p3 h0 h1 h2 h3 w S)
 have NO:=Lib.hid NO
 clear h0 h1 h2 h3
 obtain⟨⟨a0,a1⟩,⟨a2,a3⟩,⟨a4,a5⟩,a6,a7⟩:=hb
 obtain⟨t0,t1,t2,t3,w0,w1,w2,w3,ln⟩:=hp
 have M0:=mul4_bd (p:=0) (by decide) t0 t1
 have P0:=pos_bd 0 (by decide)
 have V0:IntKind.i64.wrap (4*pos 0)=4*pos 0:=IntWalk.i64_in _ ⟨by omega,by omega⟩
 have W0:IntKind.i64.wrap (4*pos 0*b.tl)=4*pos 0*b.tl:=IntWalk.i64_in _ ⟨by omega,by omega⟩
 have M1:=mul4_bd (p:=0) (by decide) t2 t3
 have P1:=pos_bd 0 (by decide)
 have V1:IntKind.i64.wrap (4*pos 0)=4*pos 0:=IntWalk.i64_in _ ⟨by omega,by omega⟩
 have W1:IntKind.i64.wrap (4*pos 0*b.th)=4*pos 0*b.th:=IntWalk.i64_in _ ⟨by omega,by omega⟩
 have M2:=mul4_bd (p:=p2) a5 t0 t1
 have P2:=pos_bd p2 a5
 have V2:IntKind.i64.wrap (4*pos p2)=4*pos p2:=IntWalk.i64_in _ ⟨by omega,by omega⟩
 have W2:IntKind.i64.wrap (4*pos p2*b.tl)=4*pos p2*b.tl:=IntWalk.i64_in _ ⟨by omega,by omega⟩
 have M3:=mul4_bd (p:=p3) a7 t2 t3
 have P3:=pos_bd p3 a7
 have V3:IntKind.i64.wrap (4*pos p3)=4*pos p3:=IntWalk.i64_in _ ⟨by omega,by omega⟩
 have W3:IntKind.i64.wrap (4*pos p3*b.th)=4*pos p3*b.th:=IntWalk.i64_in _ ⟨by omega,by omega⟩
 have hl1:(b.lo != 0)=false:=by simpa using hl
 have hjl:j<A.ls.length:=(List.getElem?_eq_some_iff.1 hj).1
 obtain⟨a,ha,hlt,b1,b2,b3,b4,b5⟩:=Am.row.get j b hj
 have hne:¬(a.add (j*5)).block=B:=by rw[block_add];exact Am.sep _ ha
 subst hn hst
 clear hj fQ hl a0 a1 a2 a3 a4 a5 a6 a7
 have B6:=Am.st
 have Cy:=tr_refl B6
 obtain⟨Ca,Cc,Ce,Cg,Ci,Ck,Cm,Cn,Cp⟩:=Am.cells
 have Dj:=B6.cell
 have Dk:=B6.free
 have E0:=B6.lt
 have El:=own5 E0
 go_enter Tryz.func124,Tryz.ntmps124
 go_wp2_with fail
 refine(NO.out _ (Lt.turn Am (Trn.kp Cy kpw))).mono ?_
 rintro e w1 ⟨rfl,Ar⟩
 have Bi:=Ar.size_le
 (try simp at Bi)
 have B4:=tn5 Ar (w.heap.size)
 obtain⟨B0,Db,Df,Dl,Dp,C6⟩:=pkx Am Cy kpw Ar
 (try clear Dj Dk Ca Cc Ce Cg Ci Ck Cm Cn Cp)
 go_wp2_with fail
 refine turn_new (fun i=>i==4) 5 #[.int .i64 0,.int .i64 0,.int .i64 0,.int .i64 0] 88 _ rfl (by kernel_rfl) (by kernel_rfl) (by first|omega|(simp;omega)) (St.cell (St.turn B6 (Trn.kp B0 kpw))) (fun a w=>by go_simp) fun hG => ?_
 have Aq:=fun o=>hG (w.heap.size) lto o (ne_addr (by omega))
 have Be:=fun o=>hG (w1.heap.size) lto o (ne_addr (by omega))
 have A3:=fun o=>hG B lto (o+1) ne_off
 clear hG
 simp only[List.take_succ_cons,List.take_zero,List.drop_succ_cons,List.drop_zero]
 repeat (first|(refine wpTurn_pure rfl (fun K hK => ?_);go_simp;first|(refine hK _ _ ?_;clear hK K)|(apply Exists.intro;refine⟨fun _ _ => ?_,hK _ _ ?_⟩;(first|fail);clear hK K))|(refine wpTurn_eff rfl (fun K hK => ?_);go_simp;(first|(with_reducible refine⟨_,_,fun _=>tur_st (St.turn B6 (Trn.kp B0 kpw)) (fun w h=>PA.out w h),?_⟩));refine hK _ _ ?_;clear hK K))
 refine wpTurn_nil ?_
 intro B1 w2 hN
 obtain⟨Ag,A0,C3,At,Bn⟩:=hN
 (try simp at A0)
 clear A3 Aq Be
 have Bj:=Ag.size_le
 (try simp at Bj)
 have B5:=tn5 Ag (w.heap.size)
 have Bq:=tn5 Ag (w1.heap.size)
 obtain⟨Bd,Cr,By,D3,D6,D4⟩:=pkx Am B0 kpw Ag
 (try clear C6)
 have Bp:¬B1=w.heap.size:=by first|omega|(simp at A0;omega)
 have Bo:¬w.heap.size=B1:=by first|omega|(simp at A0;omega)
 have Bh:¬B1=w1.heap.size:=by first|omega|(simp at A0;omega)
 have Bg:¬w1.heap.size=B1:=by first|omega|(simp at A0;omega)
 have Ba:¬B1=B:=by first|omega|(simp at A0;omega)
 have B9:¬B=B1:=by first|omega|(simp at A0;omega)
 repeat (first|(with_reducible refine wp_markr 3 ?_)|go_values|go_skip|go_guarded|go_step|go_upon|(simp only[];go_simp))
 refine wp_named (fun w3 Ap => ?_)
 have Au:=congrArg (fun w=>w.heap.size) Ap
 (try simp at Au)
 replace Au:=Nat.le_of_eq Au.symm
 have B2:=Trn.kp Bd (show Kp w.heap.size w2 w3 from Ap▸kpw)
 have Ct:=B2.le
 have Bt:=Lt.turn Am B2
 have Bc:=Bt.st
 obtain⟨Cb,Cd,Cf,Ch,Cj,Cl,Bm,Co,Cq⟩:=Bt.cells
 have D1:=Bc.cell
 have D2:=Bc.free
 have D8:=Bc.lt
 have Ej:=own5 D8
 have Ah:=cas Ap (w.heap.size) [.int .i64 0,.int .i64 0,.int .i64 0,.int .i64 0]
 have A4:=cas Ap (B1) [.int .i64 p0,.int .i64 p1,.int .i64 p2,.int .i64 p3]
 simp only[CAf,Nat.reduceAdd,and_true]at Ah A4
 clear Ap
 (try clear B5 At Bn D4 D6)
 obtain⟨E1,E2,E3,E4,E5⟩:=boxAt.trn ⟨b1,b2,b3,b4,b5⟩ B2 hlt hne
 clear b1 b2 b3 b4 b5
 have hB1a:¬(a.add (j*5)).block=B1:=(by omega)
 have hB1b:¬B1=(a.add (j*5)).block:=(by omega)
 have hE1:∀o,¬(⟨B1,o,none⟩:Addr)=a.add (j*5):=(fun o h=>hB1b (by rw[← h]))
 rw[ha]at Bm
 have hKK:=Nat.lt_of_lt_of_le hlt Ct
 generalize A.ls.length=len at *
 have hj2:((j:Int)<len):=by omega
 repeat (first|(with_reducible refine wp_markr 8 ?_)|go_values|go_skip|go_guarded|go_step|go_upon|(simp only[];go_simp))
 refine wp_named (fun w4 Aj => ?_)
 have Av:=congrArg (fun w=>w.heap.size) Aj
 (try simp at Av)
 replace Av:=Nat.le_of_eq Av.symm
 obtain⟨Bz,Dc,Dg,Dm,Dq,C7⟩:=pkn Am B2 Aj kpw
 have Ai:=cas Aj (w.heap.size) [.int .i64 0,.int .i64 0,.int .i64 0,.int .i64 0]
 have A5:=cas Aj (B1) [.int .i64 0,.int .i64 0,.int .i64 p2,.int .i64 p3]
 have Aw:=cas Aj (w3.heap.size) [.int .i64 b.il,.int .i64 b.ih,.int .i64 b.tl,.int .i64 b.th,.int .i64 b.lo]
 simp only[CAf,Nat.reduceAdd,and_true]at Ai A5 Aw
 clear Aj
 (try clear Ah A4 D1 D2 Cb Cd Cf Ch Cj Cl Bm Co Cq)
 go_wp2_with fail
 clear E1 E2 E3 E4 E5
 refine wp_loop_rounds 3 ?_
 rw[rounds_succ]
 go_wp2_with fail
 refine(positive_any _ _ _).mono ?_
 rintro e w5 ⟨rfl,A6⟩
 have Bk:=A6.size
 (try simp at Bk)
 have A8:=bl5 A6 (w.heap.size)
 have A1:=bl5 A6 (B1)
 have Ab:=bl5 A6 (w3.heap.size)
 have Br:=bl5 A6 (w4.heap.size)
 obtain⟨C0,Dd,Dh,Dn,C9,C8⟩:=pkb Am Bz kpw A6
 (try clear C7)
 replace A1:=cas5 A1 [.int .i64 0,.int .i64 0,.int .i64 p2,.int .i64 p3]
 replace Ab:=cas5 Ab [.int .i64 b.il,.int .i64 b.ih,.int .i64 b.tl,.int .i64 b.th,.int .i64 b.lo]
 replace A8:=cas5 A8 [.int .i64 0,.int .i64 0,.int .i64 0,.int .i64 0]
 simp only[CAf,Nat.reduceAdd,and_true]at A1 Ab A8
 (try clear B4 Ai A5 Aw)
 go_wp2_with fail
 refine calm 31 (by kernel_rfl) (by kernel_rfl) fun hG => ?_
 have Aq:=hG (w.heap.size) lto
 have Ae:=hG (B1) lto
 have B3:=hG (w3.heap.size) lto
 have Bf:=hG (w4.heap.size) lto
 have A3:=hG B lto
 clear hG
 simp only[List.take_succ_cons,List.take_zero,List.drop_succ_cons,List.drop_zero]
 repeat (go_big_quiet_step (first|(go_at_call 43;with_reducible exact calm_same (fun w=>sdown_any _ _ w (by omega) (by omega) (by omega)))|(go_at_call 44;with_reducible exact calm_same (fun w=>sup_any _ _ w (by omega) (by omega) (by omega) (by omega)))))
 refine wpQuiet_nil ?_
 intro w6 A7
 clear Aq Ae B3 Bf A3
 have Bl:=A7.size
 (try simp at Bl)
 have Aa:=bl5 A7 (w.heap.size)
 have A2:=bl5 A7 (B1)
 have Ac:=bl5 A7 (w3.heap.size)
 have Bs:=bl5 A7 (w4.heap.size)
 obtain⟨Cs,De,Di,Do,Dr,Cv⟩:=pkb Am C0 kpw A7
 (try clear C8 C9)
 go_wp2_with fail
 rw[rounds_succ]
 replace A2:=cas5 A2 [.int .i64 0,.int .i64 0,.int .i64 p2,.int .i64 p3]
 replace Ac:=cas5 Ac [.int .i64 b.il,.int .i64 b.ih,.int .i64 b.tl,.int .i64 b.th,.int .i64 b.lo]
 replace Aa:=cas5 Aa [.int .i64 0,.int .i64 0,.int .i64 0,.int .i64 0]
 simp only[CAf,Nat.reduceAdd,and_true]at A2 Ac Aa
 (try clear A8 A1 Ab)
 go_wp2_with fail
 refine(positive_any _ _ _).mono ?_
 rintro e w7 ⟨rfl,Ak⟩
 have C4:=Ak.size
 (try simp at C4)
 have An:=bl5 Ak (w.heap.size)
 have A9:=bl5 Ak (B1)
 have Ad:=bl5 Ak (w3.heap.size)
 have Cw:=bl5 Ak (w6.heap.size)
 obtain⟨D0,E6,E8,Ed,D7,D5⟩:=pkb Am Cs kpw Ak
 (try clear Cv)
 replace A9:=cas5 A9 [.int .i64 (dn (4*pos 0*b.tl) A.wh),.int .i64 (up (4*pos 0*b.th) A.wl),.int .i64 p2,.int .i64 p3]
 replace Ad:=cas5 Ad [.int .i64 b.il,.int .i64 b.ih,.int .i64 b.tl,.int .i64 b.th,.int .i64 b.lo]
 replace An:=cas5 An [.int .i64 0,.int .i64 0,.int .i64 0,.int .i64 0]
 simp only[CAf,Nat.reduceAdd,and_true]at A9 Ad An
 (try clear Aa A2 Ac)
 go_wp2_with fail
 refine calm 31 (by kernel_rfl) (by kernel_rfl) fun hG => ?_
 have Aq:=hG (w.heap.size) lto
 have Ae:=hG (B1) lto
 have B3:=hG (w3.heap.size) lto
 have C2:=hG (w6.heap.size) lto
 have A3:=hG B lto
 clear hG
 simp only[List.take_succ_cons,List.take_zero,List.drop_succ_cons,List.drop_zero]
 repeat (go_big_quiet_step (first|(go_at_call 43;with_reducible exact calm_same (fun w=>sdown_any _ _ w (by omega) (by omega) (by omega)))|(go_at_call 44;with_reducible exact calm_same (fun w=>sup_any _ _ w (by omega) (by omega) (by omega) (by omega)))))
 refine wpQuiet_nil ?_
 intro w8 Al
 clear Aq Ae B3 C2 A3
 have C5:=Al.size
 (try simp at C5)
 have As:=bl5 Al (w.heap.size)
 have Af:=bl5 Al (B1)
 have Ao:=bl5 Al (w3.heap.size)
 have Cx:=bl5 Al (w6.heap.size)
 obtain⟨Ea,E7,E9,Ee,Ei,Eg⟩:=pkb Am D0 kpw Al
 (try clear D5 D7)
 go_wp2_with fail
 rw[rounds_succ]
 replace Af:=cas5 Af [.int .i64 (dn (4*pos 0*b.tl) A.wh),.int .i64 (up (4*pos 0*b.th) A.wl),.int .i64 p2,.int .i64 p3]
 replace Ao:=cas5 Ao [.int .i64 b.il,.int .i64 b.ih,.int .i64 b.tl,.int .i64 b.th,.int .i64 b.lo]
 replace As:=cas5 As [.int .i64 0,.int .i64 0,.int .i64 0,.int .i64 0]
 simp only[CAf,Nat.reduceAdd,and_true]at Af Ao As
 (try clear An A9 Ad)
 repeat' (first|go_values|go_skip|go_guarded|go_step|go_upon|(simp only[];go_simp))
 refine bodyPost_ret (by simp[results,Tryz.results124,go_sem, *];first|done|rfl) rfl ?_
 exact⟨rfl,trw⟩
end Go.Proofs.YticobgianbecpaaGreatDoor
namespace Go.Proofs.YticobgianbecpaaGreatDoor
open Go Go.Sort Go.RowKit
set_option maxHeartbeats 8000000 in
theorem turning_C (B:Nat) (e:Int) (A:Ask) (n:Int) (b:Box) (j:Nat) (hj:A.ls[j]?=some b) (hn:n=j+1) (hp:TurPre A b) (Q:Res) (st:Bool) (NO:NGives n B e A Q st) (fQ:Fine Q) (p0 p1 p2 p3:Int)
  (h0:pt Q.q (Q.a-Q.c)=p0) (h1:pt Q.q (Q.a+Q.c)=p1) (h2:pt Q.q (Q.b-Q.c)=p2) (h3:pt Q.q (Q.b+Q.c)=p3) (hl:b.lo=0) (hst:st=false) (w:World) (Am:Lt B e A w) :
  Calls Tryz.prog 124 #[.pointer (some ⟨B,0,none⟩),.int .i64 n] w fun E w' =>
   E = .returned (.agg #[.int .i64 (dn (4*pos p0*b.tl) A.wh),.int .i64 (up (4*pos p1*b.th) A.wl),.int .i64 (dn (4*pos 0*b.tl) A.wh),.int .i64 (up (4*pos 0*b.th) A.wl)])∧Trn B Q.q w w':=by
 have hb:=pt_bd fQ
 rw[h0,h1,h2,h3]at hb
 have PA:=Lib.hid (fun w S=>parts_to B Q fQ p0 p1 p2 p3 h0 h1 h2 h3 w S)
 have NO:=Lib.hid NO
 clear h0 h1 h2 h3
 obtain⟨⟨a0,a1⟩,⟨a2,a3⟩,⟨a4,a5⟩,a6,a7⟩:=hb
 obtain⟨t0,t1,t2,t3,w0,w1,w2,w3,ln⟩:=hp
 have M0:=mul4_bd (p:=p0) a1 t0 t1
 have P0:=pos_bd p0 a1
 have V0:IntKind.i64.wrap (4*pos p0)=4*pos p0:=IntWalk.i64_in _ ⟨by omega,by omega⟩
 have W0:IntKind.i64.wrap (4*pos p0*b.tl)=4*pos p0*b.tl:=IntWalk.i64_in _ ⟨by omega,by omega⟩
 have M1:=mul4_bd (p:=p1) a3 t2 t3
 have P1:=pos_bd p1 a3
 have V1:IntKind.i64.wrap (4*pos p1)=4*pos p1:=IntWalk.i64_in _ ⟨by omega,by omega⟩
 have W1:IntKind.i64.wrap (4*pos p1*b.th)=4*pos p1*b.th:=IntWalk.i64_in _ ⟨by omega,by omega⟩
 have M2:=mul4_bd (p:=0) (by decide) t0 t1
 have P2:=pos_bd 0 (by decide)
 have V2:IntKind.i64.wrap (4*pos 0)=4*pos 0:=IntWalk.i64_in _ ⟨by omega,by omega⟩
 have W2:IntKind.i64.wrap (4*pos 0*b.tl)=4*pos 0*b.tl:=IntWalk.i64_in _ ⟨by omega,by omega⟩
 have M3:=mul4_bd (p:=0) (by decide) t2 t3
 have P3:=pos_bd 0 (by decide)
 have V3:IntKind.i64.wrap (4*pos 0)=4*pos 0:=IntWalk.i64_in _ ⟨by omega,by omega⟩
 have W3:IntKind.i64.wrap (4*pos 0*b.th)=4*pos 0*b.th:=IntWalk.i64_in _ ⟨by omega,by omega⟩
 have hl1:(b.lo != 0)=false:=by simpa using hl
 have hjl:j<A.ls.length:=(List.getElem?_eq_some_iff.1 hj).1
 obtain⟨a,ha,hlt,b1,b2,b3,b4,b5⟩:=Am.row.get j b hj
 have hne:¬(a.add (j*5)).block=B:=by rw[block_add];exact Am.sep _ ha
 subst hn hst
 clear hj fQ hl a0 a1 a2 a3 a4 a5 a6 a7
 have B6:=Am.st
 have Cy:=tr_refl B6
 obtain⟨Ca,Cc,Ce,Cg,Ci,Ck,Cm,Cn,Cp⟩:=Am.cells
 have Dj:=B6.cell
 have Dk:=B6.free
 have E0:=B6.lt
 have El:=own5 E0
 go_enter Tryz.func124,Tryz.ntmps124
 go_wp2_with fail
 refine(NO.out _ (Lt.turn Am (Trn.kp Cy kpw))).mono ?_
 rintro e w1 ⟨rfl,Ar⟩
 have Bi:=Ar.size_le
 (try simp at Bi)
 have B4:=tn5 Ar (w.heap.size)
 obtain⟨B0,Db,Df,Dl,Dp,C6⟩:=pkx Am Cy kpw Ar
 (try clear Dj Dk Ca Cc Ce Cg Ci Ck Cm Cn Cp)
 go_wp2_with fail
 refine turn_new (fun i=>i==4) 5 #[.int .i64 0,.int .i64 0,.int .i64 0,.int .i64 0] 88 _ rfl (by kernel_rfl) (by kernel_rfl) (by first|omega|(simp;omega)) (St.cell (St.turn B6 (Trn.kp B0 kpw))) (fun a w=>by go_simp) fun hG => ?_
 have Aq:=fun o=>hG (w.heap.size) lto o (ne_addr (by omega))
 have Be:=fun o=>hG (w1.heap.size) lto o (ne_addr (by omega))
 have A3:=fun o=>hG B lto (o+1) ne_off
 clear hG
 simp only[List.take_succ_cons,List.take_zero,List.drop_succ_cons,List.drop_zero]
 repeat (first|(refine wpTurn_pure rfl (fun K hK => ?_);go_simp;first|(refine hK _ _ ?_;clear hK K)|(apply Exists.intro;refine⟨fun _ _ => ?_,hK _ _ ?_⟩;(first|fail);clear hK K))|(refine wpTurn_eff rfl (fun K hK => ?_);go_simp;(first|(with_reducible refine⟨_,_,fun _=>tur_st (St.turn B6 (Trn.kp B0 kpw)) (fun w h=>PA.out w h),?_⟩));refine hK _ _ ?_;clear hK K))
 refine wpTurn_nil ?_
 intro B1 w2 hN
 obtain⟨Ag,A0,C3,At,Bn⟩:=hN
 (try simp at A0)
 clear A3 Aq Be
 have Bj:=Ag.size_le
 (try simp at Bj)
 have B5:=tn5 Ag (w.heap.size)
 have Bq:=tn5 Ag (w1.heap.size)
 obtain⟨Bd,Cr,By,D3,D6,D4⟩:=pkx Am B0 kpw Ag
 (try clear C6)
 have Bp:¬B1=w.heap.size:=by first|omega|(simp at A0;omega)
 have Bo:¬w.heap.size=B1:=by first|omega|(simp at A0;omega)
 have Bh:¬B1=w1.heap.size:=by first|omega|(simp at A0;omega)
 have Bg:¬w1.heap.size=B1:=by first|omega|(simp at A0;omega)
 have Ba:¬B1=B:=by first|omega|(simp at A0;omega)
 have B9:¬B=B1:=by first|omega|(simp at A0;omega)
 repeat (first|(with_reducible refine wp_markr 3 ?_)|go_values|go_skip|go_guarded|go_step|go_upon|(simp only[];go_simp))
 refine wp_named (fun w3 Ap => ?_)
 have Au:=congrArg (fun w=>w.heap.size) Ap
 (try simp at Au)
 replace Au:=Nat.le_of_eq Au.symm
 have B2:=Trn.kp Bd (show Kp w.heap.size w2 w3 from Ap▸kpw)
 have Ct:=B2.le
 have Bt:=Lt.turn Am B2
 have Bc:=Bt.st
 obtain⟨Cb,Cd,Cf,Ch,Cj,Cl,Bm,Co,Cq⟩:=Bt.cells
 have D1:=Bc.cell
 have D2:=Bc.free
 have D8:=Bc.lt
 have Ej:=own5 D8
 have Ah:=cas Ap (w.heap.size) [.int .i64 0,.int .i64 0,.int .i64 0,.int .i64 0]
 have A4:=cas Ap (B1) [.int .i64 p0,.int .i64 p1,.int .i64 p2,.int .i64 p3]
 simp only[CAf,Nat.reduceAdd,and_true]at Ah A4
 clear Ap
 (try clear B5 At Bn D4 D6)
 obtain⟨E1,E2,E3,E4,E5⟩:=boxAt.trn ⟨b1,b2,b3,b4,b5⟩ B2 hlt hne
 clear b1 b2 b3 b4 b5
 have hB1a:¬(a.add (j*5)).block=B1:=(by omega)
 have hB1b:¬B1=(a.add (j*5)).block:=(by omega)
 have hE1:∀o,¬(⟨B1,o,none⟩:Addr)=a.add (j*5):=(fun o h=>hB1b (by rw[← h]))
 rw[ha]at Bm
 have hKK:=Nat.lt_of_lt_of_le hlt Ct
 generalize A.ls.length=len at *
 have hj2:((j:Int)<len):=by omega
 repeat (first|(with_reducible refine wp_markr 8 ?_)|go_values|go_skip|go_guarded|go_step|go_upon|(simp only[];go_simp))
 refine wp_named (fun w4 Aj => ?_)
 have Av:=congrArg (fun w=>w.heap.size) Aj
 (try simp at Av)
 replace Av:=Nat.le_of_eq Av.symm
 obtain⟨Bz,Dc,Dg,Dm,Dq,C7⟩:=pkn Am B2 Aj kpw
 have Ai:=cas Aj (w.heap.size) [.int .i64 0,.int .i64 0,.int .i64 0,.int .i64 0]
 have A5:=cas Aj (B1) [.int .i64 p0,.int .i64 p1,.int .i64 0,.int .i64 0]
 have Aw:=cas Aj (w3.heap.size) [.int .i64 b.il,.int .i64 b.ih,.int .i64 b.tl,.int .i64 b.th,.int .i64 b.lo]
 simp only[CAf,Nat.reduceAdd,and_true]at Ai A5 Aw
 clear Aj
 (try clear Ah A4 D1 D2 Cb Cd Cf Ch Cj Cl Bm Co Cq)
 go_wp2_with fail
 clear E1 E2 E3 E4 E5
 refine wp_loop_rounds 3 ?_
 rw[rounds_succ]
 go_wp2_with fail
 refine(positive_any _ _ _).mono ?_
 rintro e w5 ⟨rfl,A6⟩
 have Bk:=A6.size
 (try simp at Bk)
 have A8:=bl5 A6 (w.heap.size)
 have A1:=bl5 A6 (B1)
 have Ab:=bl5 A6 (w3.heap.size)
 have Br:=bl5 A6 (w4.heap.size)
 obtain⟨C0,Dd,Dh,Dn,C9,C8⟩:=pkb Am Bz kpw A6
 (try clear C7)
 replace A1:=cas5 A1 [.int .i64 p0,.int .i64 p1,.int .i64 0,.int .i64 0]
 replace Ab:=cas5 Ab [.int .i64 b.il,.int .i64 b.ih,.int .i64 b.tl,.int .i64 b.th,.int .i64 b.lo]
 replace A8:=cas5 A8 [.int .i64 0,.int .i64 0,.int .i64 0,.int .i64 0]
 simp only[CAf,Nat.reduceAdd,and_true]at A1 Ab A8
 (try clear B4 Ai A5 Aw)
 go_wp2_with fail
 refine calm 31 (by kernel_rfl) (by kernel_rfl) fun hG => ?_
 have Aq:=hG (w.heap.size) lto
 have Ae:=hG (B1) lto
 have B3:=hG (w3.heap.size) lto
 have Bf:=hG (w4.heap.size) lto
 have A3:=hG B lto
 clear hG
 simp only[List.take_succ_cons,List.take_zero,List.drop_succ_cons,List.drop_zero]
 repeat (go_big_quiet_step (first|(go_at_call 43;with_reducible exact calm_same (fun w=>sdown_any _ _ w (by omega) (by omega) (by omega)))|(go_at_call 44;with_reducible exact calm_same (fun w=>sup_any _ _ w (by omega) (by omega) (by omega) (by omega)))))
 refine wpQuiet_nil ?_
 intro w6 A7
 clear Aq Ae B3 Bf A3
 have Bl:=A7.size
 (try simp at Bl)
 have Aa:=bl5 A7 (w.heap.size)
 have A2:=bl5 A7 (B1)
 have Ac:=bl5 A7 (w3.heap.size)
 have Bs:=bl5 A7 (w4.heap.size)
 obtain⟨Cs,De,Di,Do,Dr,Cv⟩:=pkb Am C0 kpw A7
 (try clear C8 C9)
 go_wp2_with fail
 rw[rounds_succ]
 replace A2:=cas5 A2 [.int .i64 p0,.int .i64 p1,.int .i64 0,.int .i64 0]
 replace Ac:=cas5 Ac [.int .i64 b.il,.int .i64 b.ih,.int .i64 b.tl,.int .i64 b.th,.int .i64 b.lo]
 replace Aa:=cas5 Aa [.int .i64 0,.int .i64 0,.int .i64 0,.int .i64 0]
 simp only[CAf,Nat.reduceAdd,and_true]at A2 Ac Aa
 (try clear A8 A1 Ab)
 go_wp2_with fail
 refine(positive_any _ _ _).mono ?_
 rintro e w7 ⟨rfl,Ak⟩
 have C4:=Ak.size
 (try simp at C4)
 have An:=bl5 Ak (w.heap.size)
 have A9:=bl5 Ak (B1)
 have Ad:=bl5 Ak (w3.heap.size)
 have Cw:=bl5 Ak (w6.heap.size)
 obtain⟨D0,E6,E8,Ed,D7,D5⟩:=pkb Am Cs kpw Ak
 (try clear Cv)
 replace A9:=cas5 A9 [.int .i64 (dn (4*pos p0*b.tl) A.wh),.int .i64 (up (4*pos p1*b.th) A.wl),.int .i64 0,.int .i64 0]
 replace Ad:=cas5 Ad [.int .i64 b.il,.int .i64 b.ih,.int .i64 b.tl,.int .i64 b.th,.int .i64 b.lo]
 replace An:=cas5 An [.int .i64 0,.int .i64 0,.int .i64 0,.int .i64 0]
 simp only[CAf,Nat.reduceAdd,and_true]at A9 Ad An
 (try clear Aa A2 Ac)
 go_wp2_with fail
 refine calm 31 (by kernel_rfl) (by kernel_rfl) fun hG => ?_
 have Aq:=hG (w.heap.size) lto
 have Ae:=hG (B1) lto
 have B3:=hG (w3.heap.size) lto
 have C2:=hG (w6.heap.size) lto
 have A3:=hG B lto
 clear hG
 simp only[List.take_succ_cons,List.take_zero,List.drop_succ_cons,List.drop_zero]
 repeat (go_big_quiet_step (first|(go_at_call 43;with_reducible exact calm_same (fun w=>sdown_any _ _ w (by omega) (by omega) (by omega)))|(go_at_call 44;with_reducible exact calm_same (fun w=>sup_any _ _ w (by omega) (by omega) (by omega) (by omega)))))
 refine wpQuiet_nil ?_
 intro w8 Al
 clear Aq Ae B3 C2 A3
 have C5:=Al.size
 (try simp at C5)
 have As:=bl5 Al (w.heap.size)
 have Af:=bl5 Al (B1)
 have Ao:=bl5 Al (w3.heap.size)
 have Cx:=bl5 Al (w6.heap.size)
 obtain⟨Ea,E7,E9,Ee,Ei,Eg⟩:=pkb Am D0 kpw Al
 (try clear D5 D7)
 go_wp2_with fail
 rw[rounds_succ]
 replace Af:=cas5 Af [.int .i64 (dn (4*pos p0*b.tl) A.wh),.int .i64 (up (4*pos p1*b.th) A.wl),.int .i64 0,.int .i64 0]
 replace Ao:=cas5 Ao [.int .i64 b.il,.int .i64 b.ih,.int .i64 b.tl,.int .i64 b.th,.int .i64 b.lo]
 replace As:=cas5 As [.int .i64 0,.int .i64 0,.int .i64 0,.int .i64 0]
 simp only[CAf,Nat.reduceAdd,and_true]at Af Ao As
 (try clear An A9 Ad)
 repeat' (first|go_values|go_skip|go_guarded|go_step|go_upon|(simp only[];go_simp))
 refine bodyPost_ret (by simp[results,Tryz.results124,go_sem, *];first|done|rfl) rfl ?_
 exact⟨rfl,trw⟩
end Go.Proofs.YticobgianbecpaaGreatDoor
