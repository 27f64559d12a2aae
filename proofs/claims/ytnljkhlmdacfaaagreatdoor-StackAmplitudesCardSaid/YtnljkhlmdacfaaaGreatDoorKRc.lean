/- Joined: RCircle RFactor RMatrix. -/
import Derived.Test.YtnljkhlmdacfaaaGreatDoorKRa
import Derived.Test.YtnljkhlmdacfaaaGreatDoorKMed
import Derived.Test.YtnljkhlmdacfaaaGreatDoorKRefArc
import Derived.Test.YtnljkhlmdacfaaaGreatDoorKRb
namespace Go.Proofs.YtnljkhlmdacfaaaGreatDoor
open Go Go.Sort Go.RowKit
theorem rcl_arc (lo hi:Int):RCl 230 #[.agg #[.int .i64 lo,.int .i64 hi]] (arcM lo hi):=fun w=>by
 have:=rArc_any lo hi w
 rw[outR_quad]at this
 exact this
set_option maxHeartbeats 1000000 in
theorem circ_no (B:Nat) (e x0 x1 x2 x3:Int) (he:e≠0) (w:World) (A5:St B e w) :
  Calls Tryz.prog 179 #[.pointer (some ⟨B,0,none⟩),.agg #[.int .i64 x0,.int .i64 x1,.int .i64 x2,.int .i64 x3]] w fun E w'=>E = .returned (.agg #[.int .i64 0,.int .i64 0,.int .i64 0])∧Trn B e w w':=by
 have he':(e != 0)=true:=by simpa using he
 clear he
 have B6:=A5.cell
 have B7:=A5.free
 have B5:=A5.lt
 have C5:=own5 B5
 go_enter Tryz.func179,Tryz.ntmps179
 repeat' (first|go_values|go_skip|go_guarded|go_step|go_upon|(simp only[];go_simp))
 refine bodyPost_ret (by simp[results,Tryz.results179,go_sem, *];first|done|rfl) rfl ?_
 exact⟨rfl,trw⟩
set_option maxHeartbeats 4000000 in
theorem circ_arc0 (B:Nat) (x0 x1 x2 x3:Int) (h0:0≤x0) (h1:x0≤1099511627776) (h2:0≤x1) (h3:x1≤1099511627776) (hc:x1-x0<1048576) (hq:¬(arcM x0 x1).q=0) (w:World) (A5:St B 0 w) :
  Calls Tryz.prog 179 #[.pointer (some ⟨B,0,none⟩),.agg #[.int .i64 x0,.int .i64 x1,.int .i64 x2,.int .i64 x3]] w fun E w'=>E = .returned (.agg #[.int .i64 0,.int .i64 0,.int .i64 0])∧Trn B (arcM x0 x1).q w w':=by
 have AR:=rcl_arc x0 x1
 have KE:=keep_any B 0 _ (fine_arc x0 x1)
 rw[after_zero]at KE
 have hq':((arcM x0 x1).q != 0)=true:=by simpa using hq
 generalize arcM x0 x1=C at *
 have AR:=Lib.hid AR
 have KE:=Lib.hid KE
 clear hq
 have B6:=A5.cell
 have B7:=A5.free
 have B5:=A5.lt
 have C5:=own5 B5
 go_enter Tryz.func179,Tryz.ntmps179
 go_wp2_with fail
 refine(AR.out _).mono ?_
 rintro e w1 ⟨rfl,A2⟩
 have Ad:=A2.size
 (try simp at Ad)
 have Ag:=bl5 A2 (w.heap.size+1)
 have Ai:=bl5 A2 (w.heap.size+1+1)
 have A1:=St.bel (St.to A5 smw) A2
 have Ap:=A1.cell
 have Aq:=A1.free
 have As:=A1.lt
 have Ar:=own5 As
 (try clear B6 B7)
 go_wp2_with fail
 refine(KE.out _ (St.to A1 smw)).mono ?_
 rintro e w2 ⟨rfl,A0⟩
 have Ae:=A0.size_le
 (try simp at Ae)
 have A8:=tn5 A0 (w.heap.size+1)
 have Aj:=tn5 A0 (w.heap.size+1+1)
 have A6:=St.turn (St.to A1 smw) A0
 have Ax:=A6.cell
 have Ay:=A6.free
 have At:=A6.lt
 have B4:=own5 At
 (try clear Ap Aq Ar)
 repeat' (first|go_values|go_skip|go_guarded|go_step|go_upon|(simp only[];go_simp))
 refine bodyPost_ret (by simp[results,Tryz.results179,go_sem, *];first|done|rfl) rfl ?_
 exact⟨rfl,trw⟩
set_option maxHeartbeats 4000000 in
theorem circ_arc (B:Nat) (x0 x1 x2 x3:Int) (h0:0≤x0) (h1:x0≤1099511627776) (h2:0≤x1) (h3:x1≤1099511627776) (h4:0≤x2) (h5:x2≤x3) (h6:x3≤1099511627776) (hc:x1-x0<1048576) (C R F:Res) (hC:Is C (arcM x0 x1)) (hq:C.q=0)
  (hR:Is R (after C.q (ofRangeM (fLo x3) (fHi x2)))) (hF:Is F (after R.q (ti C R))) (w:World) (A5:St B 0 w) :
  Calls Tryz.prog 179 #[.pointer (some ⟨B,0,none⟩),.agg #[.int .i64 x0,.int .i64 x1,.int .i64 x2,.int .i64 x3]] w fun E w'=>E = .returned (.agg #[.int .i64 F.a,.int .i64 F.b,.int .i64 F.c])∧Trn B F.q w w':=by
 have AR:=rcl_arc x0 x1
 have fC:Fine C:=hC.fine (fine_arc _ _)
 have fR:Fine R:=hR.fine (fine_after _ (fine_range _ _))
 have KE:=keep_any B 0 _ (fine_arc x0 x1)
 rw[after_zero]at KE
 rw[← hC.out]at AR KE
 have FA:=fun w=>rFading_any x2 x3 w h4 h5 h6
 have RG:=rcl_range (fLo x3) (fHi x2)
 have KR:=(keep_any B C.q _ (fine_range (fLo x3) (fHi x2))).to hR
 have TI:=(r_times B R.q C R fC fR).to hF
 have hq':(C.q != 0)=false:=by simpa using hq
 generalize ofRangeM (fLo x3) (fHi x2)=G at *
 generalize fLo x3=f0 at *
 generalize fHi x2=f1 at *
 have AR:=Lib.hid AR
 have KE:=Lib.hid KE
 have FA:=Lib.hid FA
 have RG:=Lib.hid RG
 have KR:=Lib.hid KR
 have TI:=Lib.hid TI
 clear hq hC hR hF fC fR
 have B6:=A5.cell
 have B7:=A5.free
 have B5:=A5.lt
 have C5:=own5 B5
 go_enter Tryz.func179,Tryz.ntmps179
 go_wp2_with fail
 refine(AR.out _).mono ?_
 rintro e w1 ⟨rfl,A2⟩
 have Ad:=A2.size
 (try simp at Ad)
 have Be:=bl5 A2 (w.heap.size)
 have Ag:=bl5 A2 (w.heap.size+1)
 have Ai:=bl5 A2 (w.heap.size+1+1)
 have A1:=St.bel (St.to A5 smw) A2
 have Ap:=A1.cell
 have Aq:=A1.free
 have As:=A1.lt
 have Ar:=own5 As
 (try clear B6 B7)
 go_wp2_with fail
 refine(KE.out _ (St.to A1 smw)).mono ?_
 rintro e w2 ⟨rfl,A0⟩
 have Ae:=A0.size_le
 (try simp at Ae)
 have Bf:=tn5 A0 (w.heap.size)
 have A8:=tn5 A0 (w.heap.size+1)
 have Aj:=tn5 A0 (w.heap.size+1+1)
 have A6:=St.turn (St.to A1 smw) A0
 have Ax:=A6.cell
 have Ay:=A6.free
 have At:=A6.lt
 have B4:=own5 At
 (try clear Ap Aq Ar)
 go_wp2_with fail
 refine(FA.out _).mono ?_
 rintro e w3 ⟨rfl,Av⟩
 have Ah:=Av.size
 (try simp at Ah)
 have Ao:=bl5 Av (w.heap.size+1)
 have Az:=bl5 Av (w.heap.size+1+1)
 have Ac:=St.bel (St.to A6 smw) Av
 have Ba:=Ac.cell
 have Bb:=Ac.free
 have Bh:=Ac.lt
 have Bg:=own5 Bh
 (try clear Ax Ay B4)
 go_wp2_with fail
 refine turn (fun i=>i==7||i==8) 9 (by kernel_rfl) (by kernel_rfl) (St.cell (St.to Ac smw)) fun hG => ?_
 have Aa:=fun o=>hG (w.heap.size+1) lto o (ne_addr (by omega))
 have Ab:=fun o=>hG (w.heap.size+1+1) lto o (ne_addr (by omega))
 have C0:=fun o=>hG (w3.heap.size) lto o (ne_addr (by omega))
 have A9:=fun o=>hG B lto (o+1) ne_off
 clear hG
 simp only[List.take_succ_cons,List.take_zero,List.drop_succ_cons,List.drop_zero]
 repeat (first|(refine wpTurn_pure rfl (fun K hK => ?_);go_simp;first|(refine hK _ _ ?_;clear hK K)|(apply Exists.intro;refine⟨fun _ _ => ?_,hK _ _ ?_⟩;(first|(go_at_call 222;with_reducible exact cal_call RG.out));clear hK K))|(refine wpTurn_eff rfl (fun K hK => ?_);go_simp;(first|(first|with_reducible refine⟨_,_,fun _=>tur_st (St.to Ac smw) (fun w h=>KR.out w h),?_⟩|with_reducible refine⟨_,_,fun _=>tur_st (St.to Ac smw) (fun w h=>TI.out w h),?_⟩));refine hK _ _ ?_;clear hK K))
 refine wpTurn_nil ?_
 intro w4 A4
 clear A9 Aa Ab C0
 have An:=A4.size_le
 (try simp at An)
 have B0:=tn5 A4 (w.heap.size+1)
 have B3:=tn5 A4 (w.heap.size+1+1)
 have B9:=tn5 A4 (w3.heap.size)
 have Al:=St.turn (St.to Ac smw) A4
 have Cc:=Al.cell
 have Cd:=Al.free
 have Bi:=Al.lt
 have Cm:=own5 Bi
 (try clear Ba Bb Bg)
 repeat' (first|go_values|go_skip|go_guarded|go_step|go_upon|(simp only[];go_simp))
 refine bodyPost_ret (by simp[results,Tryz.results179,go_sem, *];first|done|rfl) rfl ?_
 exact⟨rfl,trw⟩
set_option maxHeartbeats 4000000 in
theorem circ_all (B:Nat) (x0 x1 x2 x3:Int) (h0:0≤x0) (h1:x0≤1099511627776) (h2:0≤x1) (h3:x1≤1099511627776) (h4:0≤x2) (h5:x2≤x3) (h6:x3≤1099511627776) (hc:¬x1-x0<1048576) (R F:Res)
  (hR:Is R (after 0 (ofRangeM (fLo x3) (fHi x2)))) (hF:Is F (after R.q (ti (.good 0 0 1048576) R))) (w:World) (A5:St B 0 w) :
  Calls Tryz.prog 179 #[.pointer (some ⟨B,0,none⟩),.agg #[.int .i64 x0,.int .i64 x1,.int .i64 x2,.int .i64 x3]] w fun E w'=>E = .returned (.agg #[.int .i64 F.a,.int .i64 F.b,.int .i64 F.c])∧Trn B F.q w w':=by
 have fR:Fine R:=hR.fine (fine_after _ (fine_range _ _))
 have FA:=fun w=>rFading_any x2 x3 w h4 h5 h6
 have RG:=rcl_range (fLo x3) (fHi x2)
 have KR:=(keep_any B 0 _ (fine_range (fLo x3) (fHi x2))).to hR
 have TI:=(r_times B R.q (.good 0 0 1048576) R fine_disc fR).to hF
 obtain⟨z1,z2,z3,_⟩:=quad_good 0 0 1048576
 rw[z1,z2,z3]at TI
 clear z1 z2 z3
 generalize ofRangeM (fLo x3) (fHi x2)=G at *
 generalize fLo x3=f0 at *
 generalize fHi x2=f1 at *
 have FA:=Lib.hid FA
 have RG:=Lib.hid RG
 have KR:=Lib.hid KR
 have TI:=Lib.hid TI
 clear hR hF fR
 have B6:=A5.cell
 have B7:=A5.free
 have B5:=A5.lt
 have C5:=own5 B5
 go_enter Tryz.func179,Tryz.ntmps179
 go_wp2_with fail
 refine(FA.out _).mono ?_
 rintro e w1 ⟨rfl,A2⟩
 have Ad:=A2.size
 (try simp at Ad)
 have Ag:=bl5 A2 (w.heap.size+1)
 have Ai:=bl5 A2 (w.heap.size+1+1)
 have A1:=St.bel (St.to A5 smw) A2
 have Ap:=A1.cell
 have Aq:=A1.free
 have As:=A1.lt
 have Ar:=own5 As
 (try clear B6 B7)
 go_wp2_with fail
 refine turn (fun i=>i==7||i==8) 9 (by kernel_rfl) (by kernel_rfl) (St.cell (St.to A1 smw)) fun hG => ?_
 have Aa:=fun o=>hG (w.heap.size+1) lto o (ne_addr (by omega))
 have Ab:=fun o=>hG (w.heap.size+1+1) lto o (ne_addr (by omega))
 have Bz:=fun o=>hG (w1.heap.size) lto o (ne_addr (by omega))
 have A9:=fun o=>hG B lto (o+1) ne_off
 clear hG
 simp only[List.take_succ_cons,List.take_zero,List.drop_succ_cons,List.drop_zero]
 repeat (first|(refine wpTurn_pure rfl (fun K hK => ?_);go_simp;first|(refine hK _ _ ?_;clear hK K)|(apply Exists.intro;refine⟨fun _ _ => ?_,hK _ _ ?_⟩;(first|(go_at_call 222;with_reducible exact cal_call RG.out));clear hK K))|(refine wpTurn_eff rfl (fun K hK => ?_);go_simp;(first|(first|with_reducible refine⟨_,_,fun _=>tur_st (St.to A1 smw) (fun w h=>KR.out w h),?_⟩|with_reducible refine⟨_,_,fun _=>tur_st (St.to A1 smw) (fun w h=>TI.out w h),?_⟩));refine hK _ _ ?_;clear hK K))
 refine wpTurn_nil ?_
 intro w2 A0
 clear A9 Aa Ab Bz
 have Ae:=A0.size_le
 (try simp at Ae)
 have A8:=tn5 A0 (w.heap.size+1)
 have Aj:=tn5 A0 (w.heap.size+1+1)
 have Aw:=tn5 A0 (w1.heap.size)
 have A6:=St.turn (St.to A1 smw) A0
 have Ax:=A6.cell
 have Ay:=A6.free
 have At:=A6.lt
 have B4:=own5 At
 (try clear Ap Aq Ar)
 repeat' (first|go_values|go_skip|go_guarded|go_step|go_upon|(simp only[];go_simp))
 refine bodyPost_ret (by simp[results,Tryz.results179,go_sem, *];first|done|rfl) rfl ?_
 exact⟨rfl,trw⟩
set_option maxHeartbeats 1000000 in
theorem r_doubled (x0 x1 x2 x3:Int) (w:World) (h0:0≤x0∧x0≤1099511627776) (h1:0≤x1∧x1≤1099511627776) (h2:0≤x2∧x2≤1099511627776) (h3:0≤x3∧x3≤1099511627776) :
  Calls Tryz.prog 178 #[.agg #[.int .i64 x0,.int .i64 x1,.int .i64 x2,.int .i64 x3]] w fun E w'=>E = .returned (.agg #[.int .i64 (2*x0),.int .i64 (2*x1),.int .i64 (2*x2),.int .i64 (2*x3)])∧Below w.heap.size w w':=by
 go_enter Tryz.func178,Tryz.ntmps178
 go_wp2
 refine bodyPost_ret (by simp[results,Tryz.results178,go_sem, *];first|done|rfl) rfl ?_
 exact⟨rfl,blw⟩
end Go.Proofs.YtnljkhlmdacfaaaGreatDoor
namespace Go.Proofs.YtnljkhlmdacfaaaGreatDoor
open Go Go.Sort Go.RowKit
theorem r_circle (B:Nat) (e:Int) (A:Ask) (b:Box) (n:Int) (hp:FacPre n (turR 0 e A b) (turR 1 e A b) (turR 2 e A b) (turR 3 e A b)) :
  RGives 179 #[.pointer (some ⟨B,0,none⟩),.agg #[.int .i64 (n*turR 0 e A b),.int .i64 (n*turR 1 e A b),.int .i64 (n*turR 2 e A b),.int .i64 (n*turR 3 e A b)]] B (norR e A b).q (facR e A b n):=by
 intro w A5
 obtain⟨p0,p1,p2,p3,p4,p5,p6⟩:=hp
 by_cases hq:(norR e A b).q=0
 ·rw[hq]at A5
  by_cases hc:n*turR 1 e A b-n*turR 0 e A b<1048576
  ·obtain⟨C,hC⟩:=is_ex (arcM (n*turR 0 e A b) (n*turR 1 e A b))
   obtain⟨R,hR⟩:=is_ex (after C.q (ofRangeM (fLo (n*turR 3 e A b)) (fHi (n*turR 2 e A b))))
   have hF:=fac_arc hq hc hC hR
   by_cases hC0:C.q=0
   ·exact circ_arc B _ _ _ _ p0 p1 p2 p3 p4 p5 p6 hc C R _ hC hC0 hR hF w A5
   ·have e1:facR e A b n = .bad C.q:=by rw[hF.out,hR.out,after_err _ hC0,res_bad_q,after_err _ hC0]
    obtain⟨h1,h2,h3,h4⟩:=quad_bad C.q
    rw[e1,h1,h2,h3,h4]
    have:=circ_arc0 B _ _ (n*turR 2 e A b) (n*turR 3 e A b) p0 p1 p2 p3 hc (by rw[← hC.out];exact hC0) w A5
    rw[← hC.out]at this
    exact this
  ·obtain⟨R,hR⟩:=is_ex (after 0 (ofRangeM (fLo (n*turR 3 e A b)) (fHi (n*turR 2 e A b))))
   have hF:=fac_all hq hc hR
   exact circ_all B _ _ _ _ p0 p1 p2 p3 p4 p5 p6 hc R _ hR hF w A5
 ·rw[fac_bad hq]
  obtain⟨h1,h2,h3,h4⟩:=quad_bad (norR e A b).q
  rw[h1,h2,h3,h4]
  exact circ_no B _ _ _ _ _ hq w A5
set_option maxHeartbeats 4000000 in
theorem r_factor2 (B:Nat) (e:Int) (A:Ask) (n:Int) (b:Box) (hA:AskOk A) (hM:RMed A n b) :
  RLG 120 #[.pointer (some ⟨B,0,none⟩),A.val,.int .i64 n,.bool true] B e A (facR e A b 2):=by
 intro w Bj
 have PT:=fun w L=>r_parts B e A n b hA hM w L
 have hp:=fac_pre (e:=e) (n:=2) hA hM.ok (.inr rfl)
 have CI:=r_circle B e A b 2 hp
 obtain⟨p0,p1,p2,p3,p4,p5,p6⟩:=hp
 have DB:=fun w=>r_doubled (turR 0 e A b) (turR 1 e A b) (turR 2 e A b) (turR 3 e A b) w (by omega) (by omega) (by omega) (by omega)
 generalize (norR e A b).q=q at *
 generalize facR e A b 2=F at *
 generalize turR 0 e A b=x0 at *
 generalize turR 1 e A b=x1 at *
 generalize turR 2 e A b=x2 at *
 generalize turR 3 e A b=x3 at *
 have PT:=PT
 unfold Ask.val at PT ⊢
 have PT:=Lib.hid PT
 have CI:=Lib.hid CI
 have DB:=Lib.hid DB
 clear hA hM p0 p1 p2 p3 p4 p5 p6
 have A5:=Bj.st
 have Cn:=tr_refl A5
 have B6:=A5.cell
 have B7:=A5.free
 have B5:=A5.lt
 have C5:=own5 B5
 go_enter Tryz.func120,Tryz.ntmps120
 go_wp2_with fail
 refine(PT.out _ (Rt.turn Bj (Trn.kp Cn kpw))).mono ?_
 rintro e w1 ⟨rfl,Af⟩
 have Ad:=Af.size_le
 (try simp at Ad)
 have Ag:=tn5 Af (w.heap.size+1)
 obtain⟨Ca,Cs,A1,Cx,D2,Cg⟩:=rkx Bj Cn kpw Af
 (try clear B6 B7)
 go_wp2_with fail
 refine(DB.out _).mono ?_
 rintro e w2 ⟨rfl,Au⟩
 have Ae:=Au.size
 (try simp at Ae)
 have A8:=bl5 Au (w.heap.size+1)
 have Aw:=bl5 Au (w1.heap.size)
 obtain⟨Cb,Ct,A6,Cy,Ck,Ch⟩:=rkb Bj Ca kpw Au
 (try clear Cg)
 repeat (first|(with_reducible refine wp_markr 4 ?_)|go_values|go_skip|go_guarded|go_step|go_upon|(simp only[];go_simp))
 refine wp_named (fun w3 Am => ?_)
 have Ah:=congrArg (fun w=>w.heap.size) Am
 (try simp at Ah)
 replace Ah:=Nat.le_of_eq Ah.symm
 obtain⟨By,Cu,Ac,Cz,Cl,Ci⟩:=rkn Bj Cb Am kpw
 have Ao:=cas Am (w.heap.size+1) [.int .i64 0,.int .i64 0,.int .i64 0]
 have B8:=cas Am (w1.heap.size) [.int .i64 (2*x0),.int .i64 (2*x1),.int .i64 (2*x2),.int .i64 (2*x3)]
 simp only[CAf,Nat.reduceAdd,and_true]at Ao B8
 clear Am
 (try clear A8 Aw Ch Ck)
 go_wp2_with fail
 refine(CI.out _ (St.turn A5 (Trn.kp By kpw))).mono ?_
 rintro e w4 ⟨rfl,A4⟩
 have An:=A4.size_le
 (try simp at An)
 have B0:=tn5 A4 (w.heap.size+1)
 obtain⟨Cw,Cv,Al,D0,D3,D1⟩:=rkx Bj By kpw A4
 (try clear Ci Cl)
 repeat' (first|go_values|go_skip|go_guarded|go_step|go_upon|(simp only[];go_simp))
 refine bodyPost_ret (by simp[results,Tryz.results120,go_sem, *];first|done|rfl) rfl ?_
 exact⟨rfl,trw⟩
end Go.Proofs.YtnljkhlmdacfaaaGreatDoor
namespace Go.Proofs.YtnljkhlmdacfaaaGreatDoor
open Go Go.Sort Go.RowKit
def Mat.ints (m:Mat):Array Value:=#[.int .i64 m.m0.a,.int .i64 m.m0.b,.int .i64 m.m0.c,.int .i64 m.m1.a,.int .i64 m.m1.b,.int .i64 m.m1.c,.int .i64 m.m2.a,.int .i64 m.m2.b,.int .i64 m.m2.c,.int .i64 m.m3.a,.int .i64 m.m3.b,.int .i64 m.m3.c]
set_option maxHeartbeats 8000000 in
theorem rmat_walk (B:Nat) (e:Int) (y g p u n c v x:Res) (fy:Fine y) (fg:Fine g) (hp:Is p (after e (pl oneR g))) (hu:Is u (after p.q (ti p halfR))) (hn:Is n (after u.q (mi oneR g))) (hc:Is c (after n.q (ti n halfR))) (hv:Is v (after c.q (qt c y))) (hx:Is x (after v.q (ti c y)))
  (w:World) (A5:St B e w) :
  Calls Tryz.prog 121 #[.pointer (some ⟨B,0,none⟩),.agg #[.int .i64 y.a,.int .i64 y.b,.int .i64 y.c],.agg #[.int .i64 g.a,.int .i64 g.b,.int .i64 g.c]] w fun E w' =>
   E = .returned (.agg #[.int .i64 u.a,.int .i64 u.b,.int .i64 u.c,.int .i64 v.a,.int .i64 v.b,.int .i64 v.c,.int .i64 x.a,.int .i64 x.b,.int .i64 x.c,.int .i64 u.a,.int .i64 u.b,.int .i64 u.c])∧Trn B x.q w w':=by
 have fp:Fine p:=hp.fine (fine_after _ (fine_pl _ _))
 have fn:Fine n:=hn.fine (fine_after _ (fine_mi _ _))
 have fc:Fine c:=hc.fine (fine_after _ (fine_ti _ _))
 have TP:=Lib.hid ((r_plus B e oneR g fine_oneR fg).to hp)
 have TU:=Lib.hid ((r_times B p.q p halfR fp fine_halfR).to hu)
 have TN:=Lib.hid ((r_minus B u.q oneR g fine_oneR fg).to hn)
 have TC:=Lib.hid ((r_times B n.q n halfR fn fine_halfR).to hc)
 have TV:=Lib.hid ((r_by B c.q c y fc fy).to hv)
 have TX:=Lib.hid ((r_times B v.q c y fc fy).to hx)
 clear hp hu hn hc hv hx fp fn fc fy fg
 have B6:=A5.cell
 have B7:=A5.free
 have B5:=A5.lt
 have C5:=own5 B5
 go_enter Tryz.func121,Tryz.ntmps121
 go_wp2_with fail
 refine turn_new (fun i=>i==4||i==6) 7 #[.int .i64 0,.int .i64 0,.int .i64 0] 65 _ rfl (by kernel_rfl) (by kernel_rfl) (by first|omega|(simp;omega)) (St.cell (St.to A5 smw)) (fun a w=>by kernel_rfl) fun hG => ?_
 have Bc:=fun o=>hG (w.heap.size) lto o (ne_addr (by omega))
 have Aa:=fun o=>hG (w.heap.size+1) lto o (ne_addr (by omega))
 have Ab:=fun o=>hG (w.heap.size+1+1) lto o (ne_addr (by omega))
 have A9:=fun o=>hG B lto (o+1) ne_off
 clear hG
 simp only[List.take_succ_cons,List.take_zero,List.drop_succ_cons,List.drop_zero]
 repeat (first|(refine wpTurn_pure rfl (fun K hK => ?_);go_simp;first|(refine hK _ _ ?_;clear hK K)|(apply Exists.intro;refine⟨fun _ _ => ?_,hK _ _ ?_⟩;(first|(go_at_call 147;with_reducible exact cal_call r_one)|(go_at_call 180;with_reducible exact cal_call r_half));clear hK K))|(refine wpTurn_eff rfl (fun K hK => ?_);go_simp;(first|(first|with_reducible refine⟨_,_,fun _=>tur_st (St.to A5 smw) (fun w h=>TP.out w h),?_⟩|with_reducible refine⟨_,_,fun _=>tur_st (St.to A5 smw) (fun w h=>TU.out w h),?_⟩));refine hK _ _ ?_;clear hK K))
 refine wpTurn_nil ?_
 intro B1 w1 hN
 obtain⟨Af,A7,Ce,Co,Cq⟩:=hN
 (try simp at A7)
 clear A9 Bc Aa Ab
 have Ad:=Af.size_le
 (try simp at Ad)
 have Be:=tn5 Af (w.heap.size)
 have Ag:=tn5 Af (w.heap.size+1)
 have Ai:=tn5 Af (w.heap.size+1+1)
 have A1:=St.turn (St.to A5 smw) Af
 have Ap:=A1.cell
 have Aq:=A1.free
 have As:=A1.lt
 have Ar:=own5 As
 (try clear B6 B7)
 have C8:¬B1=w.heap.size:=by first|omega|(simp at A7;omega)
 have C6:¬w.heap.size=B1:=by first|omega|(simp at A7;omega)
 have Bs:¬B1=w.heap.size+1:=by first|omega|(simp at A7;omega)
 have Bl:¬w.heap.size+1=B1:=by first|omega|(simp at A7;omega)
 have Bt:¬B1=w.heap.size+1+1:=by first|omega|(simp at A7;omega)
 have Bm:¬w.heap.size+1+1=B1:=by first|omega|(simp at A7;omega)
 have Br:¬B1=B:=by first|omega|(simp at A7;omega)
 have Bk:¬B=B1:=by first|omega|(simp at A7;omega)
 go_wp2_with fail
 refine turn_new (fun i=>i==4||i==6) 7 #[.int .i64 0,.int .i64 0,.int .i64 0] 65 _ rfl (by kernel_rfl) (by kernel_rfl) (by first|omega|(simp;omega)) (St.cell (St.to A1 smw)) (fun a w=>by kernel_rfl) fun hG => ?_
 have Bc:=fun o=>hG (w.heap.size) lto o (ne_addr (by omega))
 have Aa:=fun o=>hG (w.heap.size+1) lto o (ne_addr (by omega))
 have Ab:=fun o=>hG (w.heap.size+1+1) lto o (ne_addr (by omega))
 have Bd:=fun o=>hG (B1) lto o (ne_addr (by omega))
 have A9:=fun o=>hG B lto (o+1) ne_off
 clear hG
 simp only[List.take_succ_cons,List.take_zero,List.drop_succ_cons,List.drop_zero]
 repeat (first|(refine wpTurn_pure rfl (fun K hK => ?_);go_simp;first|(refine hK _ _ ?_;clear hK K)|(apply Exists.intro;refine⟨fun _ _ => ?_,hK _ _ ?_⟩;(first|(go_at_call 147;with_reducible exact cal_call r_one)|(go_at_call 180;with_reducible exact cal_call r_half));clear hK K))|(refine wpTurn_eff rfl (fun K hK => ?_);go_simp;(first|(first|with_reducible refine⟨_,_,fun _=>tur_st (St.to A1 smw) (fun w h=>TN.out w h),?_⟩|with_reducible refine⟨_,_,fun _=>tur_st (St.to A1 smw) (fun w h=>TC.out w h),?_⟩));refine hK _ _ ?_;clear hK K))
 refine wpTurn_nil ?_
 intro B2 w2 hN
 obtain⟨A0,A3,Cf,Cp,Cr⟩:=hN
 (try simp at A3)
 clear A9 Bc Aa Ab Bd
 have Ae:=A0.size_le
 (try simp at Ae)
 have Bf:=tn5 A0 (w.heap.size)
 have A8:=tn5 A0 (w.heap.size+1)
 have Aj:=tn5 A0 (w.heap.size+1+1)
 have C1:=tn5 A0 (B1)
 have A6:=St.turn (St.to A1 smw) A0
 have Ax:=A6.cell
 have Ay:=A6.free
 have At:=A6.lt
 have B4:=own5 At
 (try clear Ap Aq Ar)
 have C9:¬B2=w.heap.size:=by first|omega|(simp at A3;omega)
 have C7:¬w.heap.size=B2:=by first|omega|(simp at A3;omega)
 have Bv:¬B2=w.heap.size+1:=by first|omega|(simp at A3;omega)
 have Bo:¬w.heap.size+1=B2:=by first|omega|(simp at A3;omega)
 have Bw:¬B2=w.heap.size+1+1:=by first|omega|(simp at A3;omega)
 have Bp:¬w.heap.size+1+1=B2:=by first|omega|(simp at A3;omega)
 have Bx:¬B2=B1:=by first|omega|(simp at A3;omega)
 have Bq:¬B1=B2:=by first|omega|(simp at A3;omega)
 have Bu:¬B2=B:=by first|omega|(simp at A3;omega)
 have Bn:¬B=B2:=by first|omega|(simp at A3;omega)
 go_wp2_with fail
 refine(TV.out _ (St.to A6 smw)).mono ?_
 rintro e w3 ⟨rfl,Ak⟩
 have Ah:=Ak.size_le
 (try simp at Ah)
 have Cj:=tn5 Ak (w.heap.size)
 have Az:=tn5 Ak (w.heap.size+1+1)
 have C2:=tn5 Ak (B1)
 have C3:=tn5 Ak (B2)
 have Ac:=St.turn (St.to A6 smw) Ak
 have Ba:=Ac.cell
 have Bb:=Ac.free
 have Bh:=Ac.lt
 have Bg:=own5 Bh
 (try clear Ax Ay B4)
 go_wp2_with fail
 refine(TX.out _ (St.to Ac smw)).mono ?_
 rintro e w4 ⟨rfl,A4⟩
 have An:=A4.size_le
 (try simp at An)
 have B3:=tn5 A4 (w.heap.size+1+1)
 have C4:=tn5 A4 (B1)
 have B9:=tn5 A4 (w3.heap.size)
 have Al:=St.turn (St.to Ac smw) A4
 have Cc:=Al.cell
 have Cd:=Al.free
 have Bi:=Al.lt
 have Cm:=own5 Bi
 (try clear Ba Bb Bg)
 repeat' (first|go_values|go_skip|go_guarded|go_step|go_upon|(simp only[];go_simp))
 refine bodyPost_ret (by simp[results,Tryz.results121,go_sem, *];first|done|rfl) rfl ?_
 exact⟨rfl,trw⟩
theorem r_matrix (B:Nat) (e:Int) (y g:Res) (fy:Fine y) (fg:Fine g) (w:World) (A5:St B e w) :
  Calls Tryz.prog 121 #[.pointer (some ⟨B,0,none⟩),.agg #[.int .i64 y.a,.int .i64 y.b,.int .i64 y.c],.agg #[.int .i64 g.a,.int .i64 g.b,.int .i64 g.c]] w fun E w' =>
   E = .returned (.agg (matR e y g).1.ints)∧Trn B (matR e y g).2 w w':=by
 obtain⟨p,hp⟩:=is_ex (after e (pl oneR g))
 obtain⟨u,hu⟩:=is_ex (after p.q (ti p halfR))
 obtain⟨n,hn⟩:=is_ex (after u.q (mi oneR g))
 obtain⟨c,hc⟩:=is_ex (after n.q (ti n halfR))
 obtain⟨v,hv⟩:=is_ex (after c.q (qt c y))
 obtain⟨x,hx⟩:=is_ex (after v.q (ti c y))
 rw[mat_ref hp hu hn hc hv hx]
 exact rmat_walk B e y g p u n c v x fy fg hp hu hn hc hv hx w A5
end Go.Proofs.YtnljkhlmdacfaaaGreatDoor
