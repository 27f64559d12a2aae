/- Joined: Check Amp Reflect PredLaw. -/
import Derived.Test.YticobgianbecpaaGreatDoorKMed
import Derived.Test.YticobgianbecpaaGreatDoorKThr
import Derived.Test.YticobgianbecpaaGreatDoorKFit
namespace Go.Proofs.YticobgianbecpaaGreatDoor
open Go Go.Sort Go.RowKit
theorem swithin_yes (n lo hi:Int) (w:World) (h1:lo≤n) (h2:n≤hi) :
  Calls Tryz.prog 78 #[.int .i64 n,.int .i64 lo,.int .i64 hi] w fun e w'=>e = .returned (.bool true)∧w'=w:=by
 go_enter Tryz.func78,Tryz.ntmps78
 go_wp2
 go_ret
 exact⟨rfl,rfl⟩
theorem sidx_yes (n:Int) (w:World) (h1:5000≤n) (h2:n≤80000):Calls Tryz.prog 150 #[.int .i64 n] w fun e w'=>e = .returned (.bool true)∧w'=w:=by
 go_enter Tryz.func150,Tryz.ntmps150
 go_wp2_with (go_at_call 78;refine(swithin_yes _ _ _ _ h1 h2).mono ?_;rintro e w' ⟨rfl,rfl⟩)
 go_ret
 exact⟨rfl,rfl⟩
theorem sthick_yes (n:Int) (w:World) (h1:0≤n) (h2:n≤1000000):Calls Tryz.prog 153 #[.int .i64 n] w fun e w'=>e = .returned (.bool true)∧w'=w:=by
 go_enter Tryz.func153,Tryz.ntmps153
 go_wp2_with (go_at_call 78;refine(swithin_yes _ _ _ _ h1 h2).mono ?_;rintro e w' ⟨rfl,rfl⟩)
 go_ret
 exact⟨rfl,rfl⟩
theorem sloss_yes (n:Int) (w:World) (h1:0≤n) (h2:n≤80000):Calls Tryz.prog 154 #[.int .i64 n] w fun e w'=>e = .returned (.bool true)∧w'=w:=by
 go_enter Tryz.func154,Tryz.ntmps154
 go_wp2_with (go_at_call 78;refine(swithin_yes _ _ _ _ h1 h2).mono ?_;rintro e w' ⟨rfl,rfl⟩)
 go_ret
 exact⟨rfl,rfl⟩
theorem ssine_yes (n:Int) (w:World) (h1:0≤n) (h2:n≤9999):Calls Tryz.prog 151 #[.int .i64 n] w fun e w'=>e = .returned (.bool true)∧w'=w:=by
 go_enter Tryz.func151,Tryz.ntmps151
 go_wp2_with (go_at_call 78;refine(swithin_yes _ _ _ _ h1 h2).mono ?_;rintro e w' ⟨rfl,rfl⟩)
 go_ret
 exact⟨rfl,rfl⟩
theorem swave_yes (n:Int) (w:World) (h1:1000≤n) (h2:n≤200000):Calls Tryz.prog 152 #[.int .i64 n] w fun e w'=>e = .returned (.bool true)∧w'=w:=by
 go_enter Tryz.func152,Tryz.ntmps152
 go_wp2_with (go_at_call 78;refine(swithin_yes _ _ _ _ h1 h2).mono ?_;rintro e w' ⟨rfl,rfl⟩)
 go_ret
 exact⟨rfl,rfl⟩
theorem rerr_yes (lo hi:Int) (k:Nat) (w:World) (eg:∀args w,(callFunc k args).run Tryz.prog w = .ok (.enter k args) w)
  (h1:∀w,Calls Tryz.prog k #[.int .i64 lo] w fun e w'=>e = .returned (.bool true)∧w'=w) (h2:∀w,Calls Tryz.prog k #[.int .i64 hi] w fun e w'=>e = .returned (.bool true)∧w'=w) (hle:lo≤hi) :
  Calls Tryz.prog 65 #[.agg #[.int .i64 lo,.int .i64 hi],.func (.func k) #[] #[]] w fun e w'=>e = .returned (.int .i64 0)∧Below w.heap.size w w':=by
 have H1:=Lib.hid h1
 have H2:=Lib.hid h2
 clear h1 h2
 have hn:¬hi<lo:=by omega
 go_enter Tryz.func65,Tryz.ntmps65
 go_wp2_with fail
 refine(H1.out _).mono ?_
 rintro e w' ⟨rfl,rfl⟩
 go_wp2_with fail
 refine(H2.out _).mono ?_
 rintro e w' ⟨rfl,rfl⟩
 repeat' (first|go_values|go_skip|go_guarded|go_step|go_upon|(simp only[];go_simp))
 go_ret
 exact⟨rfl,blw⟩
set_option maxRecDepth 100000 in
set_option maxHeartbeats 4000000 in
theorem CheckAsk_yes (A:Ask) (hA:AskOk A) (w:World) (hr:Row A.pa A.ls w) :
  Calls Tryz.prog 99 #[A.val] w fun e w'=>e = .returned (.tuple #[.int .i64 0,.int .i64 0])∧Below w.heap.size w w':=by
 have HB:=Lib.hid hA.ls
 obtain⟨i0,i1,s0,s1,s2,p0,v0,v1,v2,_,hlen,oi0,oi1,ol0,ol1⟩:=hA
 have p1:0≤A.po∧A.po≤1:=by omega
 obtain⟨p1,p2⟩:=p1
 have C1:=Lib.hid (fun w=>rerr_yes A.sl A.sh 151 w (enters_of Tryz.func151 (by kernel_rfl) rfl) (fun w=>ssine_yes _ w s0 (by omega)) (fun w=>ssine_yes _ w (by omega) s2) s1)
 have C2:=Lib.hid (fun w=>rerr_yes A.wl A.wh 152 w (enters_of Tryz.func152 (by kernel_rfl) rfl) (fun w=>swave_yes _ w v0 (by omega)) (fun w=>swave_yes _ w (by omega) v2) v1)
 have hl:¬40<A.ls.length:=by omega
 have hli:¬((40:Int)<A.ls.length):=by omega
 unfold Ask.val
 generalize A.pa=pa at *
 clear p0
 go_enter Tryz.func99,Tryz.ntmps99
 go_wp2_with fail
 refine(sidx_yes _ _ i0 i1).mono ?_
 rintro e w' ⟨rfl,rfl⟩
 go_wp2_with fail
 refine(C1.out _).mono ?_
 rintro e w1 ⟨rfl,A6⟩
 have Ag:=A6.size
 (try simp at Ag)
 have Ap:=bl5 A6 (w.heap.size)
 go_wp2_with fail
 refine(swithin_yes _ _ _ _ p1 p2).mono ?_
 rintro e w' ⟨rfl,rfl⟩
 go_wp2_with fail
 refine(C2.out _).mono ?_
 rintro e w2 ⟨rfl,B6⟩
 have B0:=B6.size
 (try simp at B0)
 have Bb:=bl5 B6 (w.heap.size)
 go_wp2_with fail
 go_loopw [35] (fun i wr=>∃k:Nat,k≤A.ls.length∧i = .int .i64 k∧Below w.heap.size w wr∧w.heap.size<wr.heap.size∧(∀o,wr.cell? ⟨w.heap.size,o,none⟩=(#[.int .i64 A.ix,.int .i64 A.sl,.int .i64 A.sh,.int .i64 A.po,.int .i64 A.wl,.int .i64 A.wh,.slice pa A.ls.length A.cap,.int .i64 A.oi,.int .i64 A.ol]:Array Value)[o]?)) (fun i _=>A.ls.length-(intOf i).toNat)
 case atStart=>exact⟨0,by omega,rfl,blw,by omega,fun o=>by go_simp⟩
 case round =>
  obtain⟨k,hk,rfl,Bl,Eg,Eb⟩:=hrel
  by_cases hlt:k<A.ls.length
  ·obtain⟨b,hb⟩:∃b,A.ls[k]?=some b:=⟨_,List.getElem?_eq_getElem hlt⟩
   obtain⟨b0,b1,b2,b3,b4,b5,b6,b7⟩:=HB.out b (List.mem_of_getElem? hb)
   obtain⟨a,ha,hal,hE⟩:=hr.get k b hb
   subst ha
   have hE:=boxAt.bel hE Bl hal
   obtain⟨E1,E2,E3,E4,E5⟩:=hE
   have hn1:¬b.ih<b.il:=by omega
   have hn2:¬b.th<b.tl:=by omega
   have hal2:(a.add (k*5)).block<wr.heap.size:=by have:=Bl.size;omega
   have hlt2:(k:Int)<A.ls.length:=by omega
   clear hb
   go_wp2_with fail
   refine(sidx_yes _ _ b0 (by omega)).mono ?_
   rintro e w' ⟨rfl,rfl⟩
   go_wp2_with fail
   refine(sidx_yes _ _ (by omega) b2).mono ?_
   rintro e w' ⟨rfl,rfl⟩
   go_wp2_with fail
   refine(sthick_yes _ _ b3 (by omega)).mono ?_
   rintro e w' ⟨rfl,rfl⟩
   go_wp2_with fail
   refine(sthick_yes _ _ (by omega) b5).mono ?_
   rintro e w' ⟨rfl,rfl⟩
   go_wp2_with fail
   refine(sloss_yes _ _ b6 b7).mono ?_
   rintro e w' ⟨rfl,rfl⟩
   go_wp2_with fail
   go_roundw
   case rel=>exact⟨k+1,by omega,by first|(simp;done)|(simp;omega),blw,by first|(simp;done)|(simp;omega),fun o=>by go_simp⟩
   case measure=>simp[intOf];omega
  ·have hke:k=A.ls.length:=by omega
   have hlt2:¬(k:Int)<A.ls.length:=by omega
   clear hke
   go_wp2_with fail
   refine(sidx_yes _ _ oi0 oi1).mono ?_
   rintro e w' ⟨rfl,rfl⟩
   go_wp2_with fail
   refine(sloss_yes _ _ ol0 ol1).mono ?_
   rintro e w' ⟨rfl,rfl⟩
   repeat' (first|go_values|go_skip|go_guarded|go_step|go_upon|(simp only[];go_simp))
   go_ret2
   exact⟨rfl,blw⟩
end Go.Proofs.YticobgianbecpaaGreatDoor
namespace Go.Proofs.YticobgianbecpaaGreatDoor
open Go Go.Sort Go.RowKit
theorem run_fine {A:Ask}{fs:Bool} : ∀(l:List Box) (s:Thr),s.p.fine→Fine s.f→(runR A fs s l).p.fine∧Fine (runR A fs s l).f
 | [],s,h,hf=>⟨h,hf⟩
 | b::l,s,h,hf=>by
  simp only[runR]
  split
  ·refine run_fine l _ ?_ ?_
   ·unfold stepR;exact mul_fine _ _ _
   ·unfold stepR;simp only;split
    ·exact fine_after _ (fine_ti _ _)
    ·exact hf
  ·exact⟨h,hf⟩
@[irreducible] def ampE (e:Int) (A:Ask) (fs:Bool):Res :=
 let y:=admR e A (A.med 0)
 let t:=thrR y.q A fs
 let l:=admR t.q A (A.med (A.ls.length+1))
 let b1:=after l.q (ti t.p.m1 l)
 let b:=after b1.q (pl t.p.m0 b1)
 let c1:=after b.q (ti t.p.m3 l)
 let c:=after c1.q (pl t.p.m2 c1)
 let a:=after c.q (ti y b)
 let d:=after a.q (pl a c)
 if fs=true then
  let z:=after d.q (pl y y)
  let x:=after z.q (ti z t.f)
  after x.q (qt x d)
 else
  let x:=after d.q (mi a c)
  after x.q (qt x d)
theorem ampE_zero (A:Ask) (fs:Bool):ampE 0 A fs=ampR A fs:=by unfold ampE ampR;rfl
theorem fine_ampE (e:Int) (A:Ask) (fs:Bool):Fine (ampE e A fs):=by unfold ampE;simp only;split<;>exact fine_after _ (fine_qt _ _)
theorem amp_is {e:Int}{A:Ask}{y l b1 b c1 c a d x:Res}{t:Thr} (hy:Is y (admR e A (A.med 0))) (ht:t=thrR y.q A false) (hl:Is l (admR t.q A (A.med (A.ls.length+1)))) (h1:Is b1 (after l.q (ti t.p.m1 l))) (h2:Is b (after b1.q (pl t.p.m0 b1)))
  (h3:Is c1 (after b.q (ti t.p.m3 l))) (h4:Is c (after c1.q (pl t.p.m2 c1))) (h5:Is a (after c.q (ti y b))) (h6:Is d (after a.q (pl a c))) (h7:Is x (after d.q (mi a c))):Is (ampE e A false) (after x.q (qt x d)):=by
 cases hy;subst ht;cases hl;cases h1;cases h2;cases h3;cases h4;cases h5;cases h6;cases h7;unfold ampE Is;simp
theorem fine_amp (A:Ask) (fs:Bool):Fine (ampR A fs):=by unfold ampR;simp only;split<;>exact fine_after _ (fine_qt _ _)
theorem med_zero (A:Ask):A.med 0=⟨A.ix,A.ix,0,0,0⟩:=by unfold Ask.med;rw[if_pos rfl]
theorem med_past (A:Ask):A.med (A.ls.length+1)=⟨A.oi,A.oi,0,0,A.ol⟩:=by
 unfold Ask.med
 rw[if_neg (by omega),List.getElem?_eq_none (by omega)]
set_option maxRecDepth 100000 in
set_option maxHeartbeats 16000000 in
theorem amp_no_e (B:Nat) (e:Int) (A:Ask) (hA:AskOk A):LGives 36 #[.pointer (some ⟨B,0,none⟩),.bool false] B e A (ampE e A false):=by
 intro w B5
 have hlen:=hA.len
 have M0:=med_front A hA
 have M1:=med_last A hA
 obtain⟨Y,hY⟩:=is_ex (admR e A (A.med 0))
 have fY:Fine Y:=hY.fine (fine_adm _ _ _)
 obtain⟨t,ht⟩:∃t,t=thrR Y.q A false:=⟨_,rfl⟩
 have ft:t.p.fine∧Fine t.f:=by rw[ht];unfold thrR;exact run_fine _ _ ones fine_oneR
 obtain⟨L,hL⟩:=is_ex (admR t.q A (A.med (A.ls.length+1)))
 have fL:Fine L:=hL.fine (fine_adm _ _ _)
 obtain⟨b1,hb1⟩:=is_ex (after L.q (ti t.p.m1 L))
 have fb1:Fine b1:=hb1.fine (fine_after _ (fine_ti _ _))
 obtain⟨b,hb⟩:=is_ex (after b1.q (pl t.p.m0 b1))
 have fb:Fine b:=hb.fine (fine_after _ (fine_pl _ _))
 obtain⟨c1,hc1⟩:=is_ex (after b.q (ti t.p.m3 L))
 have fc1:Fine c1:=hc1.fine (fine_after _ (fine_ti _ _))
 obtain⟨c,hc⟩:=is_ex (after c1.q (pl t.p.m2 c1))
 have fc:Fine c:=hc.fine (fine_after _ (fine_pl _ _))
 obtain⟨a,ha⟩:=is_ex (after c.q (ti Y b))
 have fa:Fine a:=ha.fine (fine_after _ (fine_ti _ _))
 obtain⟨d,hd⟩:=is_ex (after a.q (pl a c))
 have fd:Fine d:=hd.fine (fine_after _ (fine_pl _ _))
 obtain⟨x,hx⟩:=is_ex (after d.q (mi a c))
 have fx:Fine x:=hx.fine (fine_after _ (fine_mi _ _))
 have HR:=amp_is hY ht hL hb1 hb hc1 hc ha hd hx
 obtain⟨R,hR⟩:=is_ex (after x.q (qt x d))
 rw[HR.out,← hR.out]
 have AD0:=(adm_any B e A 0 _ hA M0).to (by rw[med_zero]at hY;exact hY)
 have TH:=fun w L=>through_no B Y.q A hA t (by rw[ht];unfold HidT thrR;rw[List.drop_zero]) w L
 have AD1:=(adm_any B t.q A (A.ls.length+1) _ hA M1).to (by rw[med_past]at hL;exact hL)
 clear HR ht hY hL M0 M1
 obtain⟨⟨P0,P1,P2,P3⟩,F,tq⟩:=t
 obtain⟨⟨fP0,fP1,fP2,fP3⟩,fF⟩:=ft
 simp only[Mat.cells]at hb1 hb hc1 hc AD1 TH fP0 fP1 fP2 fP3 fF
 have Tb1:=Lib.hid ((c_times B L.q P1 L fP1 fL).to hb1)
 have Tb:=Lib.hid ((c_plus B b1.q P0 b1 fP0 fb1).to hb)
 have Tc1:=Lib.hid ((c_times B b.q P3 L fP3 fL).to hc1)
 have Tc:=Lib.hid ((c_plus B c1.q P2 c1 fP2 fc1).to hc)
 have Ta:=Lib.hid ((c_times B c.q Y b fY fb).to ha)
 have Td:=Lib.hid ((c_plus B a.q a c fa fc).to hd)
 have Tx:=Lib.hid ((c_minus B d.q a c fa fc).to hx)
 have TR:=Lib.hid ((c_by B x.q x d fx fd).to hR)
 have AD0:=Lib.hid AD0
 have AD1:=Lib.hid AD1
 have TH:=Lib.hid TH
 clear hA hb1 hb hc1 hc ha hd hx hR fb1 fb fc1 fc fa fd fx fY fL fP0 fP1 fP2 fP3 fF
 have hw1:wrap64 ((A.ls.length:Int)+1)=A.ls.length+1:=IntWalk.wrap64_in _ ⟨by omega,by omega⟩
 have hw2:IntKind.i64.wrap ((A.ls.length:Int)+1)=A.ls.length+1:=IntWalk.i64_in _ ⟨by omega,by omega⟩
 have An:=B5.st
 have Dz:=tr_refl An
 obtain⟨Dq,Dr,Ds,Dt,Du,Dv,Dw,Dx,Dy⟩:=B5.cells
 have E0:=An.cell
 have E6:=An.free
 have Eh:=An.lt
 have Fc:=own5 Eh
 go_enter Tryz.func36,Tryz.ntmps36
 go_wp2_with fail
 refine(AD0.out _ (Lt.turn B5 (Trn.kp Dz kpw))).mono ?_
 rintro e w1 ⟨rfl,Ba⟩
 have Ag:=Ba.size_le
 (try simp at Ag)
 have Ap:=tn5 Ba (w.heap.size)
 obtain⟨Cc,Ei,Eq,Ez,F8,De⟩:=pkx B5 Dz kpw Ba
 (try clear E0 E6 Dq Dr Ds Dt Du Dv Dw Dx Dy Fc)
 go_wp2_with fail
 refine(TH.out _ (Lt.turn B5 (Trn.kp Cc kpw))).mono ?_
 rintro e w2 ⟨rfl,A5⟩
 have B0:=A5.size_le
 (try simp at B0)
 have Bb:=tn5 A5 (w.heap.size)
 have Bg:=tn5 A5 (w1.heap.size)
 obtain⟨Cd,Ej,Er,F0,F9,Df⟩:=pkx B5 Cc kpw A5
 (try clear De)
 go_wp2_with fail
 refine(AD1.out _ (Lt.turn B5 (Trn.kp Cd kpw))).mono ?_
 rintro e w3 ⟨rfl,Av⟩
 have B9:=Av.size_le
 (try simp at B9)
 have Aq:=tn5 Av (w.heap.size)
 have A9:=tn5 Av (w1.heap.size)
 have Aa:=tn5 Av (w2.heap.size)
 obtain⟨Bd,Ek,Es,F1,Fa,Dg⟩:=pkx B5 Cd kpw Av
 (try clear Df)
 replace Aq:=cas5 Aq [.complex .f64 0 0,.int .i64 0]
 replace A9:=cas5 A9 [.complex .f64 (fl Y.a) (fl Y.b),.int .i64 Y.c]
 replace Aa:=cas5 Aa [.complex .f64 (fl P0.a) (fl P0.b),.int .i64 P0.c,.complex .f64 (fl P1.a) (fl P1.b),.int .i64 P1.c,.complex .f64 (fl P2.a) (fl P2.b),.int .i64 P2.c,.complex .f64 (fl P3.a) (fl P3.b),.int .i64 P3.c]
 simp only[CAf,Nat.reduceAdd,and_true]at Aq A9 Aa
 (try clear Ap Bb Bg)
 go_wp2_with fail
 refine turn_new (fun i=>i==11||i==12) 13 #[.complex .f64 0 0,.int .i64 0] 57 _ rfl (by kernel_rfl) (by kernel_rfl) (by first|omega|(simp;omega)) (St.cell (St.turn An (Trn.kp Bd kpw))) (fun a w=>by kernel_rfl) fun hG => ?_
 have Ao:=fun o=>hG (w.heap.size) lto o (ne_addr (by omega))
 have Au:=fun o=>hG (w1.heap.size) lto o (ne_addr (by omega))
 have B7:=fun o=>hG (w2.heap.size) lto o (ne_addr (by omega))
 have B8:=fun o=>hG (w3.heap.size) lto o (ne_addr (by omega))
 have A3:=fun o=>hG B lto (o+1) ne_off
 clear hG
 simp only[List.take_succ_cons,List.take_zero,List.drop_succ_cons,List.drop_zero]
 repeat (first|(refine wpTurn_pure rfl (fun K hK => ?_);go_simp;first|(refine hK _ _ ?_;clear hK K)|(apply Exists.intro;refine⟨fun _ _ => ?_,hK _ _ ?_⟩;(first|fail);clear hK K))|(refine wpTurn_eff rfl (fun K hK => ?_);go_simp;(first|(first|with_reducible refine⟨_,_,fun _=>tur_st (St.turn An (Trn.kp Bd kpw)) (fun w h=>Tb1.out w h),?_⟩|with_reducible refine⟨_,_,fun _=>tur_st (St.turn An (Trn.kp Bd kpw)) (fun w h=>Tb.out w h),?_⟩));refine hK _ _ ?_;clear hK K))
 refine wpTurn_nil ?_
 intro B1 w4 hN
 obtain⟨Ak,A1,Da,E7,Ec⟩:=hN
 (try simp at A1)
 clear A3 Ao Au B7 B8
 have Cs:=Ak.size_le
 (try simp at Cs)
 have Ar:=tn5 Ak (w.heap.size)
 have Ab:=tn5 Ak (w1.heap.size)
 have Ac:=tn5 Ak (w2.heap.size)
 have Ad:=tn5 Ak (w3.heap.size)
 obtain⟨Be,El,Et,F2,Dm,Dh⟩:=pkx B5 Bd kpw Ak
 (try clear Dg)
 have D6:¬B1=w.heap.size:=by first|omega|(simp at A1;omega)
 have D2:¬w.heap.size=B1:=by first|omega|(simp at A1;omega)
 have Cl:¬B1=w1.heap.size:=by first|omega|(simp at A1;omega)
 have Ce:¬w1.heap.size=B1:=by first|omega|(simp at A1;omega)
 have Cm:¬B1=w2.heap.size:=by first|omega|(simp at A1;omega)
 have Cf:¬w2.heap.size=B1:=by first|omega|(simp at A1;omega)
 have Cn:¬B1=w3.heap.size:=by first|omega|(simp at A1;omega)
 have Cg:¬w3.heap.size=B1:=by first|omega|(simp at A1;omega)
 have C0:¬B1=B:=by first|omega|(simp at A1;omega)
 have Br:¬B=B1:=by first|omega|(simp at A1;omega)
 replace Ar:=cas5 Ar [.complex .f64 0 0,.int .i64 0]
 replace Ab:=cas5 Ab [.complex .f64 (fl Y.a) (fl Y.b),.int .i64 Y.c]
 replace Ac:=cas5 Ac [.complex .f64 (fl P0.a) (fl P0.b),.int .i64 P0.c,.complex .f64 (fl P1.a) (fl P1.b),.int .i64 P1.c,.complex .f64 (fl P2.a) (fl P2.b),.int .i64 P2.c,.complex .f64 (fl P3.a) (fl P3.b),.int .i64 P3.c]
 replace Ad:=cas5 Ad [.complex .f64 (fl L.a) (fl L.b),.int .i64 L.c]
 simp only[CAf,Nat.reduceAdd,and_true]at Ar Ab Ac Ad
 (try clear Aq A9 Aa)
 go_wp2_with fail
 refine turn_new (fun i=>i==11||i==12) 13 #[.complex .f64 0 0,.int .i64 0] 57 _ rfl (by kernel_rfl) (by kernel_rfl) (by first|omega|(simp;omega)) (St.cell (St.turn An (Trn.kp Be kpw))) (fun a w=>by kernel_rfl) fun hG => ?_
 have Ao:=fun o=>hG (w.heap.size) lto o (ne_addr (by omega))
 have Au:=fun o=>hG (w1.heap.size) lto o (ne_addr (by omega))
 have B7:=fun o=>hG (w2.heap.size) lto o (ne_addr (by omega))
 have B8:=fun o=>hG (w3.heap.size) lto o (ne_addr (by omega))
 have Ax:=fun o=>hG (B1) lto o (ne_addr (by omega))
 have A3:=fun o=>hG B lto (o+1) ne_off
 clear hG
 simp only[List.take_succ_cons,List.take_zero,List.drop_succ_cons,List.drop_zero]
 repeat (first|(refine wpTurn_pure rfl (fun K hK => ?_);go_simp;first|(refine hK _ _ ?_;clear hK K)|(apply Exists.intro;refine⟨fun _ _ => ?_,hK _ _ ?_⟩;(first|fail);clear hK K))|(refine wpTurn_eff rfl (fun K hK => ?_);go_simp;(first|(first|with_reducible refine⟨_,_,fun _=>tur_st (St.turn An (Trn.kp Be kpw)) (fun w h=>Tc1.out w h),?_⟩|with_reducible refine⟨_,_,fun _=>tur_st (St.turn An (Trn.kp Be kpw)) (fun w h=>Tc.out w h),?_⟩));refine hK _ _ ?_;clear hK K))
 refine wpTurn_nil ?_
 intro B2 w5 hN
 obtain⟨Ah,A0,Db,E8,Ed⟩:=hN
 (try simp at A0)
 clear A3 Ao Au B7 B8 Ax
 have Ct:=Ah.size_le
 (try simp at Ct)
 have As:=tn5 Ah (w.heap.size)
 have Ae:=tn5 Ah (w1.heap.size)
 have Bh:=tn5 Ah (w2.heap.size)
 have Bi:=tn5 Ah (w3.heap.size)
 have A7:=tn5 Ah (B1)
 obtain⟨Bm,Em,Eu,F3,Dn,Di⟩:=pkx B5 Be kpw Ah
 (try clear Dh Dm)
 have D7:¬B2=w.heap.size:=by first|omega|(simp at A0;omega)
 have D3:¬w.heap.size=B2:=by first|omega|(simp at A0;omega)
 have Co:¬B2=w1.heap.size:=by first|omega|(simp at A0;omega)
 have Ch:¬w1.heap.size=B2:=by first|omega|(simp at A0;omega)
 have Cp:¬B2=w2.heap.size:=by first|omega|(simp at A0;omega)
 have Ci:¬w2.heap.size=B2:=by first|omega|(simp at A0;omega)
 have Cq:¬B2=w3.heap.size:=by first|omega|(simp at A0;omega)
 have Cj:¬w3.heap.size=B2:=by first|omega|(simp at A0;omega)
 have C4:¬B2=B1:=by first|omega|(simp at A0;omega)
 have Bt:¬B1=B2:=by first|omega|(simp at A0;omega)
 have C3:¬B2=B:=by first|omega|(simp at A0;omega)
 have Bs:¬B=B2:=by first|omega|(simp at A0;omega)
 replace As:=cas5 As [.complex .f64 0 0,.int .i64 0]
 replace Ae:=cas5 Ae [.complex .f64 (fl Y.a) (fl Y.b),.int .i64 Y.c]
 replace A7:=cas5 A7 [.complex .f64 (fl b.a) (fl b.b),.int .i64 b.c]
 simp only[CAf,Nat.reduceAdd,and_true]at As Ae A7
 (try clear Ar Ab Ac Ad)
 go_wp2_with fail
 refine turn_new (fun i=>i==5) 6 #[.complex .f64 0 0,.int .i64 0] 57 _ rfl (by kernel_rfl) (by kernel_rfl) (by first|omega|(simp;omega)) (St.cell (St.turn An (Trn.kp Bm kpw))) (fun a w=>by kernel_rfl) fun hG => ?_
 have Ao:=fun o=>hG (w.heap.size) lto o (ne_addr (by omega))
 have Au:=fun o=>hG (w1.heap.size) lto o (ne_addr (by omega))
 have Ax:=fun o=>hG (B1) lto o (ne_addr (by omega))
 have Af:=fun o=>hG (B2) lto o (ne_addr (by omega))
 have A3:=fun o=>hG B lto (o+1) ne_off
 clear hG
 simp only[List.take_succ_cons,List.take_zero,List.drop_succ_cons,List.drop_zero]
 repeat (first|(refine wpTurn_pure rfl (fun K hK => ?_);go_simp;first|(refine hK _ _ ?_;clear hK K)|(apply Exists.intro;refine⟨fun _ _ => ?_,hK _ _ ?_⟩;(first|fail);clear hK K))|(refine wpTurn_eff rfl (fun K hK => ?_);go_simp;(first|(with_reducible refine⟨_,_,fun _=>tur_st (St.turn An (Trn.kp Bm kpw)) (fun w h=>Ta.out w h),?_⟩));refine hK _ _ ?_;clear hK K))
 refine wpTurn_nil ?_
 intro B3 w6 hN
 obtain⟨Al,A2,Dc,E9,Ee⟩:=hN
 (try simp at A2)
 clear A3 Ao Au Ax Af
 have Cu:=Al.size_le
 (try simp at Cu)
 have At:=tn5 Al (w.heap.size)
 have Bj:=tn5 Al (w1.heap.size)
 have Bc:=tn5 Al (B1)
 have A8:=tn5 Al (B2)
 obtain⟨Bn,En,Ev,F4,Do,Dj⟩:=pkx B5 Bm kpw Al
 (try clear Di Dn)
 have D8:¬B3=w.heap.size:=by first|omega|(simp at A2;omega)
 have D4:¬w.heap.size=B3:=by first|omega|(simp at A2;omega)
 have Cr:¬B3=w1.heap.size:=by first|omega|(simp at A2;omega)
 have Ck:¬w1.heap.size=B3:=by first|omega|(simp at A2;omega)
 have C6:¬B3=B1:=by first|omega|(simp at A2;omega)
 have Bv:¬B1=B3:=by first|omega|(simp at A2;omega)
 have C7:¬B3=B2:=by first|omega|(simp at A2;omega)
 have Bw:¬B2=B3:=by first|omega|(simp at A2;omega)
 have C5:¬B3=B:=by first|omega|(simp at A2;omega)
 have Bu:¬B=B3:=by first|omega|(simp at A2;omega)
 replace At:=cas5 At [.complex .f64 0 0,.int .i64 0]
 replace A8:=cas5 A8 [.complex .f64 (fl c.a) (fl c.b),.int .i64 c.c]
 simp only[CAf,Nat.reduceAdd,and_true]at At A8
 (try clear As Ae Bh Bi A7)
 go_wp2_with fail
 refine turn_new (fun i=>i==5) 6 #[.complex .f64 0 0,.int .i64 0] 57 _ rfl (by kernel_rfl) (by kernel_rfl) (by first|omega|(simp;omega)) (St.cell (St.turn An (Trn.kp Bn kpw))) (fun a w=>by kernel_rfl) fun hG => ?_
 have Ao:=fun o=>hG (w.heap.size) lto o (ne_addr (by omega))
 have Af:=fun o=>hG (B2) lto o (ne_addr (by omega))
 have Ay:=fun o=>hG (B3) lto o (ne_addr (by omega))
 have A3:=fun o=>hG B lto (o+1) ne_off
 clear hG
 simp only[List.take_succ_cons,List.take_zero,List.drop_succ_cons,List.drop_zero]
 repeat (first|(refine wpTurn_pure rfl (fun K hK => ?_);go_simp;first|(refine hK _ _ ?_;clear hK K)|(apply Exists.intro;refine⟨fun _ _ => ?_,hK _ _ ?_⟩;(first|fail);clear hK K))|(refine wpTurn_eff rfl (fun K hK => ?_);go_simp;(first|(with_reducible refine⟨_,_,fun _=>tur_st (St.turn An (Trn.kp Bn kpw)) (fun w h=>Td.out w h),?_⟩));refine hK _ _ ?_;clear hK K))
 refine wpTurn_nil ?_
 intro B4 w7 hN
 obtain⟨Aw,A4,Dd,Ea,Ef⟩:=hN
 (try simp at A4)
 clear A3 Ao Af Ay
 have Cv:=Aw.size_le
 (try simp at Cv)
 have Az:=tn5 Aw (w.heap.size)
 have Ai:=tn5 Aw (B2)
 have Aj:=tn5 Aw (B3)
 obtain⟨Bf,Eo,Ew,F5,Dp,Dk⟩:=pkx B5 Bn kpw Aw
 (try clear Dj Do)
 have D9:¬B4=w.heap.size:=by first|omega|(simp at A4;omega)
 have D5:¬w.heap.size=B4:=by first|omega|(simp at A4;omega)
 have C9:¬B4=B2:=by first|omega|(simp at A4;omega)
 have By:¬B2=B4:=by first|omega|(simp at A4;omega)
 have Ca:¬B4=B3:=by first|omega|(simp at A4;omega)
 have Bz:¬B3=B4:=by first|omega|(simp at A4;omega)
 have C8:¬B4=B:=by first|omega|(simp at A4;omega)
 have Bx:¬B=B4:=by first|omega|(simp at A4;omega)
 replace Az:=cas5 Az [.complex .f64 0 0,.int .i64 0]
 replace Ai:=cas5 Ai [.complex .f64 (fl c.a) (fl c.b),.int .i64 c.c]
 replace Aj:=cas5 Aj [.complex .f64 (fl a.a) (fl a.b),.int .i64 a.c]
 simp only[CAf,Nat.reduceAdd,and_true]at Az Ai Aj
 (try clear At Bj Bc A8)
 go_wp2_with fail
 refine turn (fun i=>i==8||i==10) 11 (by kernel_rfl) (by kernel_rfl) (St.cell (St.turn An (Trn.kp Bf kpw))) fun hG => ?_
 have Ao:=fun o=>hG (w.heap.size) lto o (ne_addr (by omega))
 have Af:=fun o=>hG (B2) lto o (ne_addr (by omega))
 have Ay:=fun o=>hG (B3) lto o (ne_addr (by omega))
 have Bo:=fun o=>hG (B4) lto o (ne_addr (by omega))
 have A3:=fun o=>hG B lto (o+1) ne_off
 clear hG
 simp only[List.take_succ_cons,List.take_zero,List.drop_succ_cons,List.drop_zero]
 repeat (first|(refine wpTurn_pure rfl (fun K hK => ?_);go_simp;first|(refine hK _ _ ?_;clear hK K)|(apply Exists.intro;refine⟨fun _ _ => ?_,hK _ _ ?_⟩;(first|fail);clear hK K))|(refine wpTurn_eff rfl (fun K hK => ?_);go_simp;(first|(first|with_reducible refine⟨_,_,fun _=>tur_st (St.turn An (Trn.kp Bf kpw)) (fun w h=>Tx.out w h),?_⟩|with_reducible refine⟨_,_,fun _=>tur_st (St.turn An (Trn.kp Bf kpw)) (fun w h=>TR.out w h),?_⟩));refine hK _ _ ?_;clear hK K))
 refine wpTurn_nil ?_
 intro w8 Am
 clear A3 Ao Af Ay Bo
 have Cw:=Am.size_le
 (try simp at Cw)
 have Dl:=tn5 Am (w.heap.size)
 have Cz:=tn5 Am (B2)
 have D0:=tn5 Am (B3)
 have D1:=tn5 Am (B4)
 obtain⟨Ey,Ep,Ex,F6,Fb,F7⟩:=pkx B5 Bf kpw Am
 (try clear Dk Dp)
 repeat' (first|go_values|go_skip|go_guarded|go_step|go_upon|(simp only[];go_simp))
 refine bodyPost_ret (by simp[results,Tryz.results36,go_sem, *];first|done|rfl) rfl ?_
 exact⟨rfl,trw⟩
theorem amp_no (B:Nat) (A:Ask) (hA:AskOk A):LGives 36 #[.pointer (some ⟨B,0,none⟩),.bool false] B 0 A (ampR A false):=by
 rw[← ampE_zero];exact amp_no_e B 0 A hA
end Go.Proofs.YticobgianbecpaaGreatDoor
namespace Go.Proofs.YticobgianbecpaaGreatDoor
open Go Go.Sort Go.RowKit
theorem Trn.below {B N:Nat}{s:Int}{a b:World} (h:Trn B s a b) (hB:N≤B) (hN:N≤a.heap.size):Below N a b :=
 Below.trans (Below.setCell (Below.refl _ _) hB _) (Below.mono h hN)
set_option maxHeartbeats 2000000 in
theorem open_any (A:Ask) (hA:AskOk A) (w:World) (hr:Row A.pa A.ls w) (hpa:∀a,A.pa=some a→a.block<w.heap.size) :
  Calls Tryz.prog 35 #[A.val] w fun e w'=>∃n,w.heap.size≤n∧e = .returned (.tuple #[.pointer (some ⟨n,0,none⟩),.int .i64 0])∧Lt n 0 A w'∧Below w.heap.size w w':=by
 have CK:=fun w hr=>CheckAsk_yes A hA w hr
 unfold Ask.val at CK ⊢
 have CK:=Lib.hid CK
 have HR:=Lib.hid hr
 have HP:=Lib.hid hpa
 clear hr hpa hA
 go_enter Tryz.func35,Tryz.ntmps35
 go_wp2_with fail
 refine(CK.out _ (HR.out.bel blw)).mono ?_
 rintro e w1 ⟨rfl,A6⟩
 have Ag:=A6.size
 (try simp at Ag)
 have Ap:=bl5 A6 (w.heap.size)
 repeat' (first|go_values|go_skip|go_guarded|go_step|go_upon|(simp only[];go_simp))
 go_ret2
 exact⟨w1.heap.size,by omega,rfl,⟨⟨by go_simp,by go_simp,by simp⟩,⟨by go_simp,by go_simp,by go_simp,by go_simp,by go_simp,by go_simp,by go_simp,by go_simp,by go_simp⟩,HR.out.bel blw,fun a ha=>by have:=HP.out a ha;omega⟩,blw⟩
set_option maxHeartbeats 2000000 in
theorem result_any (B:Nat) (R:Res) (fR:Fine R) (w:World) (An:St B R.q w) :
  Calls Tryz.prog 92 #[.pointer (some ⟨B,0,none⟩),.agg #[.complex .f64 (fl R.a) (fl R.b),.int .i64 R.c]] w fun e w'=>e = .returned (out R)∧Below w.heap.size w w':=by
 rw[out_quad]
 obtain⟨E0,E6,Eh⟩:=An
 have Fd:B<w.heap.size+1:=by omega
 have Fe:B<w.heap.size+1+1:=by omega
 have n0:¬B=w.heap.size:=by omega
 have n1:¬B=w.heap.size+1:=by omega
 have n2:¬B=w.heap.size+1+1:=by omega
 have m0:¬w.heap.size=B:=by omega
 have m1:¬w.heap.size+1=B:=by omega
 have m2:¬w.heap.size+1+1=B:=by omega
 by_cases hq:R.q=0
 ·have hq1:(R.q != 0)=false:=by simpa using hq
  go_enter Tryz.func92,Tryz.ntmps92
  repeat' (first|go_values|go_skip|go_guarded|go_step|go_upon|(simp only[];go_simp))
  refine bodyPost_ret (by simp[results,Tryz.results92,go_sem, *];first|done|rfl) rfl ?_
  exact⟨by rw[hq],blw⟩
 ·have hq1:(R.q != 0)=true:=by simpa using hq
  have z1:R.a=0∧R.b=0∧R.c=0:=by
   have:=fR.zero hq
   obtain⟨h1,h2,h3,_⟩:=quad_bad R.q
   exact⟨by rw[this];exact h1,by rw[this];exact h2,by rw[this];exact h3⟩
  have Z1:=Lib.hid z1
  clear z1
  go_enter Tryz.func92,Tryz.ntmps92
  go_wp2_with fail
  go_region_held3 (fun w'=>w'.cell? ⟨B,0,none⟩=some (.int .i64 R.q)∧w'.cell? ⟨w.heap.size+1+1,0,none⟩=some (.complex .f64 0 0)∧w'.cell? ⟨w.heap.size+1+1,1,none⟩=some (.int .i64 0)) (simp[*,go_sem]) (fail)
  repeat' (first|go_values|go_skip|go_guarded|go_step|go_upon|(simp only[];go_simp))
  refine bodyPost_ret (by simp[results,Tryz.results92,go_sem, *];first|done|rfl) rfl ?_
  exact⟨by rw[Z1.out.1,Z1.out.2.1,Z1.out.2.2,fl_zero],blw⟩
set_option maxHeartbeats 2000000 in
theorem Reflected_any (A:Ask) (hA:AskOk A) (w:World) (hr:Row A.pa A.ls w) (hpa:∀a,A.pa=some a→a.block<w.heap.size) :
  Calls Tryz.prog 27 #[A.val] w fun e w'=>e = .returned (out (ampR A false))∧Below w.heap.size w w':=by
 rw[out_quad]
 have OP:=fun w hr hpa=>open_any A hA w hr hpa
 unfold Ask.val at OP ⊢
 have AM:=fun n=>amp_no n A hA
 have fR:=fine_amp A false
 have RA:=fun B w S=>result_any B (ampR A false) fR w S
 rw[out_quad]at RA
 generalize ampR A false=R at *
 have OP:=Lib.hid OP
 have AM:=Lib.hid AM
 have RA:=Lib.hid RA
 have HR:=Lib.hid hr
 have HP:=Lib.hid hpa
 clear hr hpa hA fR
 go_enter Tryz.func27,Tryz.ntmps27
 go_wp2_with fail
 refine(OP.out _ (HR.out.bel blw) (fun a h=>by have:=HP.out a h;simp;omega)).mono ?_
 rintro e w1 ⟨n,hn,rfl,hL,A6⟩
 simp at hn
 have Ag:=A6.size
 (try simp at Ag)
 have Ap:=bl5 A6 (w.heap.size)
 have Cx:=bl5 A6 (w.heap.size+1)
 go_wp2_with fail
 refine(AM.out n _ hL).mono ?_
 rintro e w2 ⟨rfl,A5⟩
 have B0:=A5.size_le
 have Bp:=fun o=>A5.other (k:=w.heap.size+1) (o:=o) (by omega) (ne_addr (by omega))
 have Bq:=fun o=>A5.free (k:=w.heap.size+1) (o:=o) (by omega)
 have B6:Below w.heap.size w w2:=Below.trans (show Below w.heap.size w w1 from blw) (A5.below (by omega) (by omega))
 have hS:=(hL.turn A5).st
 clear hL
 have Cb:w.heap.size+1<w2.heap.size:=by omega
 go_wp2_with fail
 refine(RA.out n _ hS).mono ?_
 rintro e w3 ⟨rfl,Bk⟩
 have B9:=Bk.size
 (try simp at B9)
 have Cy:=bl5 Bk (w.heap.size+1)
 repeat' (first|go_values|go_skip|go_guarded|go_step|go_upon|(simp only[];go_simp))
 refine bodyPost_ret (by simp[results,Tryz.results27,go_sem, *];first|done|rfl) rfl ?_
 exact⟨rfl,blw⟩
end Go.Proofs.YticobgianbecpaaGreatDoor
namespace Go.Proofs.YticobgianbecpaaGreatDoor
open Go Go.Sort Go.RowKit
structure Seen where
 n0:Int
 n1:Int
 c0:Int
 c1:Int
 s0:Int
 s1:Int
 q:Int
def Seen.val (x:Seen):Value := .agg #[.int .i64 x.n0,.int .i64 x.n1,.int .i64 x.c0,.int .i64 x.c1,.int .i64 x.s0,.int .i64 x.s1]
def Seen.bad (q:Int):Seen:=⟨0,0,0,0,0,0,q⟩
@[irreducible] def enRL (R:Res):Int:=enL R.a R.b R.c
@[irreducible] def enRH (R:Res):Int:=enH R.a R.b R.c
@[irreducible] def seenM (R0 R1 M:Res):Seen :=
 ⟨clamp (loN (enRL R0) (enRH R1)),clamp (hiN (enRH R0) (enRL R1)),
  clamp (loC (M.a-M.c) (M.a+M.c) (enRL R0+enRL R1) (enRH R0+enRH R1)),clamp (hiC (M.a-M.c) (M.a+M.c) (enRL R0+enRL R1) (enRH R0+enRH R1)),
  clamp (loC (M.b-M.c) (M.b+M.c) (enRL R0+enRL R1) (enRH R0+enRH R1)),clamp (hiC (M.b-M.c) (M.b+M.c) (enRL R0+enRL R1) (enRH R0+enRH R1)),0⟩
@[irreducible] def seenR (R0 R1:Res):Seen :=
 if R0.q=0 then
  if R1.q=0 then
   if (ti R1 (cj R0)).q=0 then
    if enRL R0+enRL R1=0 then .bad 9 else seenM R0 R1 (ti R1 (cj R0))
   else .bad (ti R1 (cj R0)).q
  else .bad R1.q
 else .bad R0.q
theorem seen_e0 {R0 R1:Res} (h:R0.q≠0):seenR R0 R1 = .bad R0.q:=by unfold seenR;rw[if_neg h]
theorem seen_e1 {R0 R1:Res} (h0:R0.q=0) (h:R1.q≠0):seenR R0 R1 = .bad R1.q:=by unfold seenR;rw[if_pos h0,if_neg h]
theorem seen_e2 {R0 R1:Res} (h0:R0.q=0) (h1:R1.q=0) (h:(ti R1 (cj R0)).q≠0):seenR R0 R1 = .bad (ti R1 (cj R0)).q:=by unfold seenR;rw[if_pos h0,if_pos h1,if_neg h]
theorem seen_e3 {R0 R1:Res} (h0:R0.q=0) (h1:R1.q=0) (h2:(ti R1 (cj R0)).q=0) (h:enRL R0+enRL R1=0):seenR R0 R1 = .bad 9:=by unfold seenR;rw[if_pos h0,if_pos h1,if_pos h2,if_pos h]
theorem seen_ok {R0 R1:Res} (h0:R0.q=0) (h1:R1.q=0) (h2:(ti R1 (cj R0)).q=0) (h:enRL R0+enRL R1≠0):seenR R0 R1=seenM R0 R1 (ti R1 (cj R0)):=by unfold seenR;rw[if_pos h0,if_pos h1,if_pos h2,if_neg h]
theorem cj_good {R:Res} (h:Fine R):(cj R).q=0:=by
 unfold cj conjM onOne
 rw[if_pos h.right]
 have r:=h.right
 have:Right R.a (-R.b) R.c:=by unfold Right Fits at r ⊢;omega
 unfold fin
 rw[if_neg (by decide),if_pos this]
 exact(quad_good _ _ _).2.2.2
theorem en_le {x y r:Int} (h:Right x y r):0≤enL x y r∧enL x y r≤enH x y r∧enH x y r≤1099511627776:=by
 obtain⟨b1,b2,b3,b4⟩:=en_bd h
 have t0:=rt_nonneg (x*x+y*y)
 have b:=rtu_bounds (n:=x*x+y*y)
 have r0:=h.2.1
 have hL:max 0 (rt (x*x+y*y)-r)≤rtu (x*x+y*y)+r:=by omega
 have e1:enL x y r=max 0 (rt (x*x+y*y)-r)*max 0 (rt (x*x+y*y)-r)/1048576:=by unfold enL;rfl
 have e2:enH x y r = -(-((rtu (x*x+y*y)+r)*(rtu (x*x+y*y)+r))/1048576):=by unfold enH;rfl
 rw[e1,e2]
 generalize max 0 (rt (x*x+y*y)-r)=L at *
 generalize rtu (x*x+y*y)+r=U at *
 have m1:L*L≤U*U:=Int.mul_le_mul hL hL b1 (by omega)
 have m2:0≤L*L:=Int.mul_nonneg b1 b1
 have m3:=mul_bd b3 b4 b3 b4
 generalize L*L=p at *
 generalize U*U=q at *
 omega
theorem enR_le {R:Res} (h:Fine R):0≤enRL R∧enRL R≤enRH R∧enRH R≤1099511627776:=by unfold enRL enRH;exact en_le h.right
theorem div_anti {x A B:Int} (hA:0<A) (hAB:A≤B) (hx:0≤x):x/B≤x/A:=by
 refine Int.le_ediv_of_mul_le hA ?_
 have h0:0≤x/B:=Int.ediv_nonneg hx (by omega)
 have h1:x/B*A≤x/B*B:=Int.mul_le_mul_of_nonneg_left hAB h0
 have h2:x/B*B≤x:=Int.ediv_mul_le _ (by omega)
 omega
theorem div_mono {x A B:Int} (hA:0<A) (hAB:A≤B) (hx:x≤0):x/A≤x/B:=by
 refine Int.le_ediv_of_mul_le (by omega) ?_
 have h0:x/A≤0:=by
  have:=Int.ediv_le_ediv hA hx
  simpa using this
 have h1:x/A*B≤x/A*A:=Int.mul_le_mul_of_nonpos_left h0 hAB
 have h2:x/A*A≤x:=Int.ediv_mul_le _ (by omega)
 omega
theorem loC_is {lo hi A B:Int} (hA:0<A) (hAB:A≤B) (h:lo≤hi):loC lo hi A B = -2*hi*1048576/(if 0 ≤ -2*hi then B else A):=by
 unfold loC
 have m1 : -2*hi*1048576/A ≤ -2*lo*1048576/A:=Int.ediv_le_ediv hA (by omega)
 have m2 : -2*hi*1048576/B ≤ -2*lo*1048576/B:=Int.ediv_le_ediv (by omega) (by omega)
 by_cases hs:0 ≤ -2*hi
 ·have m3:=div_anti hA hAB (x := -2*hi*1048576) (by omega)
  rw[if_pos hs]
  omega
 ·have m3:=div_mono hA hAB (x := -2*hi*1048576) (by omega)
  rw[if_neg hs]
  omega
theorem hiC_is {lo hi A B:Int} (hA:0<A) (hAB:A≤B) (h:lo≤hi):hiC lo hi A B=cdv (-2*lo*1048576) (if 0 ≤ -2*lo then A else B):=by
 unfold hiC cdv
 have m1 : -(-2*lo*1048576)/A ≤ -(-2*hi*1048576)/A:=Int.ediv_le_ediv hA (by omega)
 have m2 : -(-2*lo*1048576)/B ≤ -(-2*hi*1048576)/B:=Int.ediv_le_ediv (by omega) (by omega)
 by_cases hs:0 ≤ -2*lo
 ·have m3:=div_mono hA hAB (x := -(-2*lo*1048576)) (by omega)
  rw[if_pos hs]
  omega
 ·have m3:=div_anti hA hAB (x := -(-2*lo*1048576)) (by omega)
  rw[if_neg hs]
  omega
@[reducible] def askF (wv ix si po:Int) (ls:List Box) (oi ol:Int) (pa:Option Addr) (cap:Nat):Ask:=⟨ix,si,si,po,wv,wv,ls,oi,ol,pa,cap⟩
@[reducible] def Ask.mv (A:Ask) (pa:Option Addr) (cap:Nat):Ask := { A with pa:=pa,cap:=cap}
section
variable (e:Int) (A:Ask) (b:Box) (pa:Option Addr) (cap:Nat)
theorem side_mv:sideR (A.mv pa cap)=sideR A:=by unfold sideR;rfl
theorem nsq_mv:nsqR e (A.mv pa cap) b=nsqR e A b:=by unfold nsqR;simp only[side_mv]
theorem nor_mv:norR e (A.mv pa cap) b=norR e A b:=by unfold norR;simp only[nsq_mv]
theorem stop_mv:stopR e (A.mv pa cap) b=stopR e A b:=by unfold stopR;simp only[nsq_mv]
theorem adm_mv:admR e (A.mv pa cap) b=admR e A b:=by unfold admR;simp only[nor_mv]
theorem turP_mv (k:Nat):turP k e (A.mv pa cap) b=turP k e A b:=by unfold turP;simp only[nor_mv,stop_mv]
theorem turR_mv (k:Nat):turR k e (A.mv pa cap) b=turR k e A b:=by unfold turR;simp only[turP_mv]
theorem fac_mv (n:Int):facR e (A.mv pa cap) b n=facR e A b n:=by unfold facR;simp only[nor_mv,turR_mv]
theorem step_mv (fs:Bool) (s:Thr):stepR (A.mv pa cap) fs s b=stepR A fs s b:=by unfold stepR;simp only[adm_mv,fac_mv]
theorem run_mv (fs:Bool):∀(l:List Box) (s:Thr),runR (A.mv pa cap) fs s l=runR A fs s l
 | [],s=>rfl
 | b::l,s=>by simp only[runR,step_mv,run_mv fs l]
theorem thr_mv (fs:Bool):thrR e (A.mv pa cap) fs=thrR e A fs:=by unfold thrR;simp only[run_mv]
theorem med_mv (k:Nat):(A.mv pa cap).med k=A.med k:=by unfold Ask.med;rfl
theorem amp_mv (fs:Bool):ampR (A.mv pa cap) fs=ampR A fs:=by unfold ampR;simp only[adm_mv,thr_mv,med_mv]
end
@[irreducible] def seenB (wv ix si:Int) (ls:List Box) (oi ol:Int):Seen:=seenR (ampR (askF wv ix si 0 ls oi ol none 0) false) (ampR (askF wv ix si 1 ls oi ol none 0) false)
theorem seenB_at (wv ix si:Int) (ls:List Box) (oi ol:Int) (pa:Option Addr) (cap:Nat):seenR (ampR (askF wv ix si 0 ls oi ol pa cap) false) (ampR (askF wv ix si 1 ls oi ol pa cap) false)=seenB wv ix si ls oi ol:=by
 unfold seenB
 rw[← amp_mv (askF wv ix si 0 ls oi ol none 0) pa cap,← amp_mv (askF wv ix si 1 ls oi ol none 0) pa cap]
end Go.Proofs.YticobgianbecpaaGreatDoor
