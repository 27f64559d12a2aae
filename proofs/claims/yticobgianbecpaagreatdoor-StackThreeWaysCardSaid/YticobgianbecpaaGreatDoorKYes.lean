/- Joined: ThroughYes AmpYes Trans. -/
import Derived.Test.YticobgianbecpaaGreatDoorKThr
import Derived.Test.YticobgianbecpaaGreatDoorKRefl
import Derived.Test.YticobgianbecpaaGreatDoorKAsk
namespace Go.Proofs.YticobgianbecpaaGreatDoor
open Go Go.Sort Go.RowKit
theorem step_yes {A:Ask}{s:Thr}{b:Box}{y g x f:Res} (hy:Is y (admR s.q A b)) (hg:Is g (facR y.q A b 2)) (hx:Is x (facR g.q A b 1)) (hf:Is f (after x.q (ti s.f x))) :
  stepR A true s b=⟨(mulR (matR f.q y g).2 s.p (matR f.q y g).1).1,f,(mulR (matR f.q y g).2 s.p (matR f.q y g).1).2⟩:=by
 cases hy;cases hg;cases hx;cases hf;unfold stepR;simp
set_option maxRecDepth 100000 in
set_option maxHeartbeats 8000000 in
theorem through_yes (B:Nat) (e:Int) (A:Ask) (hA:AskOk A) (T:Thr) (hT:HidT A true ⟨⟨oneR,noneR,noneR,oneR⟩,oneR,e⟩ T 0) (w:World) (Am:Lt B e A w) :
  Calls Tryz.prog 100 #[.pointer (some ⟨B,0,none⟩),.bool true] w fun E w'=>E = .returned (.tuple #[.agg T.p.cells,.agg #[.complex .f64 (fl T.f.a) (fl T.f.b),.int .i64 T.f.c]])∧Trn B T.q w w':=by
 have hlen:=hA.len
 have Az:=Am.st
 have G8:=tr_refl Az
 obtain⟨E5,E6,E7,E8,E9,Ea,Eb,Ec,Ed⟩:=Am.cells
 have Gt:=Az.cell
 have Gv:=Az.free
 have Hc:=Az.lt
 have I3:=own5 Hc
 go_enter Tryz.func100,Tryz.ntmps100
 go_wp2_with fail
 refine(one_cl _).mono ?_
 rintro e w1 ⟨rfl,Bf⟩
 have Cl:=Bf.size
 (try simp at Cl)
 have C2:=bl5 Bf (w.heap.size)
 have Cq:=bl5 Bf (w.heap.size+1)
 obtain⟨D3,Gi,Gn,Gx,Fu,E0⟩:=pkb Am G8 kpw Bf
 (try clear Gt Gv E5 E6 E7 E8 E9 Ea Eb Ec Ed)
 go_wp2_with fail
 refine(none_cl _).mono ?_
 rintro e w2 ⟨rfl,Bw⟩
 have Cb:=Bw.size
 (try simp at Cb)
 have Cr:=bl5 Bw (w.heap.size)
 have Fp:=bl5 Bw (w.heap.size+1)
 obtain⟨D4,Gj,Gp,Gy,Fv,E1⟩:=pkb Am D3 kpw Bw
 (try clear E0 Fu)
 go_wp2_with fail
 refine(none_cl _).mono ?_
 rintro e w3 ⟨rfl,Bp⟩
 have Cm:=Bp.size
 (try simp at Cm)
 have Bk:=bl5 Bp (w.heap.size)
 have Cs:=bl5 Bp (w.heap.size+1)
 obtain⟨Cc,Gk,Gq,Gz,Fx,E2⟩:=pkb Am D4 kpw Bp
 (try clear E1 Fv)
 go_wp2_with fail
 refine(one_cl _).mono ?_
 rintro e w4 ⟨rfl,C9⟩
 have Cn:=C9.size
 (try simp at Cn)
 have Bl:=bl5 C9 (w.heap.size)
 have Fq:=bl5 C9 (w.heap.size+1)
 obtain⟨Cd,Gl,Gr,H0,E4,E3⟩:=pkb Am Cc kpw C9
 (try clear E2 Fx)
 go_wp2_with fail
 refine(one_cl _).mono ?_
 rintro e w5 ⟨rfl,Ca⟩
 have Co:=Ca.size
 (try simp at Co)
 have Bm:=bl5 Ca (w.heap.size)
 have Fs:=bl5 Ca (w.heap.size+1)
 obtain⟨D5,Gm,Gs,H1,Fy,Fr⟩:=pkb Am Cd kpw Ca
 (try clear E3 E4)
 go_wp2_with fail
 go_loopw [8] (fun i wr=>∃(k:Nat) (p0 p1 p2 p3 f:Res) (q:Int),k≤A.ls.length∧i = .int .i64 (k+1)∧(⟨p0,p1,p2,p3⟩:Mat).fine∧Fine f∧HidT A true ⟨⟨p0,p1,p2,p3⟩,f,q⟩ T k∧Trn B q w wr∧w5.heap.size+1<wr.heap.size∧At8 wr w.heap.size (Value.complex .f64 0 0) (Value.int .i64 0) (Value.complex .f64 0 0) (Value.int .i64 0) (Value.complex .f64 0 0) (Value.int .i64 0) (Value.complex .f64 0 0) (Value.int .i64 0)∧At2 wr (w.heap.size+1) (Value.complex .f64 0 0) (Value.int .i64 0)∧At8 wr w5.heap.size (Value.complex .f64 (fl p0.a) (fl p0.b)) (Value.int .i64 p0.c) (Value.complex .f64 (fl p1.a) (fl p1.b)) (Value.int .i64 p1.c) (Value.complex .f64 (fl p2.a) (fl p2.b)) (Value.int .i64 p2.c) (Value.complex .f64 (fl p3.a) (fl p3.b)) (Value.int .i64 p3.c)∧At2 wr (w5.heap.size+1) (Value.complex .f64 (fl f.a) (fl f.b)) (Value.int .i64 f.c)) (fun i _=>A.ls.length+1-(intOf i).toNat)
 case atStart=>exact⟨0,oneR,noneR,noneR,oneR,oneR,e,by omega,rfl,ones,fine_oneR,hT,trw,by simp,⟨by go_simp,by go_simp,by go_simp,by go_simp,by go_simp,by go_simp,by go_simp,by go_simp,fun o=>by go_simp⟩,⟨by go_simp,by go_simp,fun o=>by go_simp⟩,⟨by go_simp,by go_simp,by go_simp,by go_simp,by go_simp,by go_simp,by go_simp,by go_simp,fun o=>by go_simp⟩,⟨by go_simp,by go_simp,fun o=>by go_simp⟩⟩
 case round =>
  obtain⟨k,p0,p1,p2,p3,f,q,hk,rfl,fp,ff,HT,D6,hsz,⟨Da,Db,Dc,Dd,De,Df,Dg,Dh,Di⟩,⟨Ce,Cf,Cg⟩,⟨Cu,Cv,Cw,Cx,Cy,Cz,D0,D1,D2⟩,⟨C4,C5,C6⟩⟩:=hrel
  clear hT
  have hd0:¬w.heap.size=w5.heap.size:=by omega
  have he0:¬w5.heap.size=w.heap.size:=by omega
  have hd1:¬w.heap.size=w5.heap.size+1:=by omega
  have he1:¬w5.heap.size+1=w.heap.size:=by omega
  have hd2:¬w.heap.size+1=w5.heap.size:=by omega
  have he2:¬w5.heap.size=w.heap.size+1:=by omega
  have Ie:=D6.le
  have F2:=Lt.turn Am D6
  have Dk:=F2.st
  obtain⟨Fz,G0,G1,G2,G3,G4,G5,G6,G7⟩:=F2.cells
  have Gu:=Dk.cell
  have Gw:=Dk.free
  have Hd:=Dk.lt
  have Hb:=own5 Hd
  generalize hln:A.ls.length=len at *
  by_cases hlt:k<len
  ·have hc1:((k:Int)+1≤len):=by omega
   by_cases hq:q=0
   ·have hq1:(q==0)=true:=by simpa using hq
    obtain⟨b,hb⟩:∃b,A.ls[k]?=some b:=⟨_,List.getElem?_eq_getElem (by omega)⟩
    have hM:Med A ((k:Int)+1) b:=med_layer A hA k b hb
    obtain⟨Y,hY⟩:=is_ex (admR q A b)
    have fY:Fine Y:=hY.fine (fine_adm _ _ _)
    obtain⟨G,hG⟩:=is_ex (facR Y.q A b 2)
    have fG:Fine G:=hG.fine (fine_fac _ _ _ _)
    have AD:=Lib.hid ((adm_any B q A ((k:Int)+1) b hA hM).to hY)
    obtain⟨X,hX⟩:=is_ex (facR G.q A b 1)
    have fX:Fine X:=hX.fine (fine_fac _ _ _ _)
    obtain⟨F,hF⟩:=is_ex (after X.q (ti f X))
    have fF:Fine F:=hF.fine (fine_after _ (fine_ti _ _))
    have FX:=Lib.hid ((factor_any B G.q A ((k:Int)+1) b k 1 hA hb rfl (.inl rfl)).to hX)
    have TF:=Lib.hid ((c_times B X.q f X ff fX).to hF)
    have FA:=Lib.hid ((factor_any B Y.q A ((k:Int)+1) b k 2 hA hb rfl (.inr rfl)).to hG)
    have MA:=fun w L=>matrix_any B F.q A Y G fY fG w L
    have fm:=mat_fine F.q Y G
    have ST:=step_yes (s:=⟨⟨p0,p1,p2,p3⟩,f,q⟩) hY hG hX hF
    generalize hm:matR F.q Y G=M at *
    obtain⟨⟨m0,m1,m2,m3⟩,EM⟩:=M
    have MU:=fun w L=>mul_any B EM A ⟨p0,p1,p2,p3⟩ ⟨m0,m1,m2,m3⟩ fp fm w L
    have fn:=mul_fine EM ⟨p0,p1,p2,p3⟩ ⟨m0,m1,m2,m3⟩
    simp only at ST
    generalize hn:mulR EM ⟨p0,p1,p2,p3⟩ ⟨m0,m1,m2,m3⟩=N at *
    obtain⟨⟨n0,n1,n2,n3⟩,EN⟩:=N
    simp only[Mat.cells]at MA MU ST fn
    have HT':HidT A true ⟨⟨n0,n1,n2,n3⟩,F,EN⟩ T (k+1):=by have h:=HT;unfold HidT at h ⊢;rw[run_step hq hb,ST]at h;exact h
    have MA:=Lib.hid MA
    have MU:=Lib.hid MU
    have HT':=Lib.hid HT'
    have fn:=Lib.hid fn
    clear HT ST hm hn hM fm hq hb
    go_wp2_with fail
    refine(AD.out _ (Lt.turn Am (Trn.kp D6 kpw))).mono ?_
    rintro e w21 ⟨rfl,Aw⟩
    have Dw:=Aw.size_le
    (try simp at Dw)
    have B5:=tn5 Aw (w.heap.size)
    have Ab:=tn5 Aw (w.heap.size+1)
    have Aq:=tn5 Aw (w5.heap.size)
    have A6:=tn5 Aw (w5.heap.size+1)
    obtain⟨Dj,He,Hi,Hn,I0,Fm⟩:=pkx Am D6 kpw Aw
    (try clear Gu Gw Fz G0 G1 G2 G3 G4 G5 G6 G7 Hb)
    replace B5:=cas5 B5 [.complex .f64 0 0,.int .i64 0,.complex .f64 0 0,.int .i64 0,.complex .f64 0 0,.int .i64 0,.complex .f64 0 0,.int .i64 0]
    replace Ab:=cas5 Ab [.complex .f64 0 0,.int .i64 0]
    replace Aq:=cas5 Aq [.complex .f64 (fl p0.a) (fl p0.b),.int .i64 p0.c,.complex .f64 (fl p1.a) (fl p1.b),.int .i64 p1.c,.complex .f64 (fl p2.a) (fl p2.b),.int .i64 p2.c,.complex .f64 (fl p3.a) (fl p3.b),.int .i64 p3.c]
    replace A6:=cas5 A6 [.complex .f64 (fl f.a) (fl f.b),.int .i64 f.c]
    simp only[CAf,Nat.reduceAdd,and_true]at B5 Ab Aq A6
    (try clear Di Da Db Dc Dd De Df Dg Dh Cg Ce Cf D2 Cu Cv Cw Cx Cy Cz D0 D1 C6 C4 C5)
    go_wp2_with fail
    refine(FA.out _ (Lt.turn Am (Trn.kp Dj kpw))).mono ?_
    rintro e w22 ⟨rfl,An⟩
    have Dx:=An.size_le
    (try simp at Dx)
    have B6:=tn5 An (w.heap.size)
    have Ad:=tn5 An (w.heap.size+1)
    have Ar:=tn5 An (w5.heap.size)
    have A7:=tn5 An (w5.heap.size+1)
    have Ac:=tn5 An (w21.heap.size)
    obtain⟨C7,Hf,Hj,Ho,I1,Fn⟩:=pkx Am Dj kpw An
    (try clear Fm)
    replace B6:=cas5 B6 [.complex .f64 0 0,.int .i64 0,.complex .f64 0 0,.int .i64 0,.complex .f64 0 0,.int .i64 0,.complex .f64 0 0,.int .i64 0]
    replace Ad:=cas5 Ad [.complex .f64 0 0,.int .i64 0]
    replace Ar:=cas5 Ar [.complex .f64 (fl p0.a) (fl p0.b),.int .i64 p0.c,.complex .f64 (fl p1.a) (fl p1.b),.int .i64 p1.c,.complex .f64 (fl p2.a) (fl p2.b),.int .i64 p2.c,.complex .f64 (fl p3.a) (fl p3.b),.int .i64 p3.c]
    replace A7:=cas5 A7 [.complex .f64 (fl f.a) (fl f.b),.int .i64 f.c]
    replace Ac:=cas5 Ac [.complex .f64 (fl Y.a) (fl Y.b),.int .i64 Y.c]
    simp only[CAf,Nat.reduceAdd,and_true]at B6 Ad Ar A7 Ac
    (try clear B5 Ab Aq A6)
    go_wp2_with fail
    refine turn (fun i=>i==6||i==7) 8 (by kernel_rfl) (by kernel_rfl) (St.cell (St.turn Az (Trn.kp C7 kpw))) fun hG => ?_
    have Av:=fun o=>hG (w.heap.size) lto o (ne_addr (by omega))
    have Bz:=fun o=>hG (w.heap.size+1) lto o (ne_addr (by omega))
    have Ck:=fun o=>hG (w5.heap.size) lto o (ne_addr (by omega))
    have Bs:=fun o=>hG (w5.heap.size+1) lto o (ne_addr (by omega))
    have Bx:=fun o=>hG (w21.heap.size) lto o (ne_addr (by omega))
    have By:=fun o=>hG (w22.heap.size) lto o (ne_addr (by omega))
    have A1:=fun o=>hG B lto (o+1) ne_off
    clear hG
    simp only[List.take_succ_cons,List.take_zero,List.drop_succ_cons,List.drop_zero]
    repeat (first|(refine wpTurn_pure rfl (fun K hK => ?_);go_simp;first|(refine hK _ _ ?_;clear hK K)|(apply Exists.intro;refine⟨fun _ _ => ?_,hK _ _ ?_⟩;(first|fail);clear hK K))|(refine wpTurn_eff rfl (fun K hK => ?_);go_simp;(first|(first|with_reducible refine⟨_,_,fun _=>tur_lt (Lt.turn Am (Trn.kp C7 kpw)) (fun w h=>FX.out w h),?_⟩|with_reducible refine⟨_,_,fun _=>tur_st (St.turn Az (Trn.kp C7 kpw)) (fun w h=>TF.out w h),?_⟩));refine hK _ _ ?_;clear hK K))
    refine wpTurn_nil ?_
    intro w23 A9
    clear A1 Av Bz Ck Bs Bx By
    have Dy:=A9.size_le
    (try simp at Dy)
    have B7:=tn5 A9 (w.heap.size)
    have Ag:=tn5 A9 (w.heap.size+1)
    have As:=tn5 A9 (w5.heap.size)
    have A8:=tn5 A9 (w5.heap.size+1)
    have Ae:=tn5 A9 (w21.heap.size)
    have Af:=tn5 A9 (w22.heap.size)
    obtain⟨C8,Hg,Hk,Hp,Fw,Fo⟩:=pkx Am C7 kpw A9
    (try clear Fn)
    replace B7:=cas5 B7 [.complex .f64 0 0,.int .i64 0,.complex .f64 0 0,.int .i64 0,.complex .f64 0 0,.int .i64 0,.complex .f64 0 0,.int .i64 0]
    replace Ag:=cas5 Ag [.complex .f64 0 0,.int .i64 0]
    replace As:=cas5 As [.complex .f64 (fl p0.a) (fl p0.b),.int .i64 p0.c,.complex .f64 (fl p1.a) (fl p1.b),.int .i64 p1.c,.complex .f64 (fl p2.a) (fl p2.b),.int .i64 p2.c,.complex .f64 (fl p3.a) (fl p3.b),.int .i64 p3.c]
    replace A8:=cas5 A8 [.complex .f64 (fl f.a) (fl f.b),.int .i64 f.c]
    replace Ae:=cas5 Ae [.complex .f64 (fl Y.a) (fl Y.b),.int .i64 Y.c]
    replace Af:=cas5 Af [.complex .f64 (fl G.a) (fl G.b),.int .i64 G.c]
    simp only[CAf,Nat.reduceAdd,and_true]at B7 Ag As A8 Ae Af
    (try clear B6 Ad Ar A7 Ac)
    go_wp2_with fail
    refine turn (fun i=>i==5||i==6) 7 (by kernel_rfl) (by kernel_rfl) (St.cell (St.turn Az (Trn.kp C8 kpw))) fun hG => ?_
    have Av:=fun o=>hG (w.heap.size) lto o (ne_addr (by omega))
    have Bz:=fun o=>hG (w.heap.size+1) lto o (ne_addr (by omega))
    have Ck:=fun o=>hG (w5.heap.size) lto o (ne_addr (by omega))
    have Bs:=fun o=>hG (w5.heap.size+1) lto o (ne_addr (by omega))
    have Bx:=fun o=>hG (w21.heap.size) lto o (ne_addr (by omega))
    have By:=fun o=>hG (w22.heap.size) lto o (ne_addr (by omega))
    have A1:=fun o=>hG B lto (o+1) ne_off
    clear hG
    simp only[List.take_succ_cons,List.take_zero,List.drop_succ_cons,List.drop_zero]
    repeat (first|(refine wpTurn_pure rfl (fun K hK => ?_);go_simp;first|(refine hK _ _ ?_;clear hK K)|(apply Exists.intro;refine⟨fun _ _ => ?_,hK _ _ ?_⟩;(first|fail);clear hK K))|(refine wpTurn_eff rfl (fun K hK => ?_);go_simp;(first|(first|with_reducible refine⟨_,_,fun _=>tur_lt (Lt.turn Am (Trn.kp C8 kpw)) (fun w h=>MA.out w h),?_⟩|with_reducible refine⟨_,_,fun _=>tur_lt (Lt.turn Am (Trn.kp C8 kpw)) (fun w h=>MU.out w h),?_⟩));refine hK _ _ ?_;clear hK K))
    refine wpTurn_nil ?_
    intro w24 Aa
    clear A1 Av Bz Ck Bs Bx By
    have Dz:=Aa.size_le
    (try simp at Dz)
    have Bt:=tn5 Aa (w.heap.size)
    have Ax:=tn5 Aa (w.heap.size+1)
    have Bj:=tn5 Aa (w5.heap.size)
    have Ao:=tn5 Aa (w5.heap.size+1)
    have Ez:=tn5 Aa (w21.heap.size)
    have F0:=tn5 Aa (w22.heap.size)
    obtain⟨Hm,Hh,Hl,Hq,I2,Hz⟩:=pkx Am C8 kpw Aa
    (try clear Fo Fw)
    replace Bt:=cas5 Bt [.complex .f64 0 0,.int .i64 0,.complex .f64 0 0,.int .i64 0,.complex .f64 0 0,.int .i64 0,.complex .f64 0 0,.int .i64 0]
    replace Ax:=cas5 Ax [.complex .f64 0 0,.int .i64 0]
    replace Bj:=cas5 Bj [.complex .f64 (fl p0.a) (fl p0.b),.int .i64 p0.c,.complex .f64 (fl p1.a) (fl p1.b),.int .i64 p1.c,.complex .f64 (fl p2.a) (fl p2.b),.int .i64 p2.c,.complex .f64 (fl p3.a) (fl p3.b),.int .i64 p3.c]
    replace Ao:=cas5 Ao [.complex .f64 (fl F.a) (fl F.b),.int .i64 F.c]
    simp only[CAf,Nat.reduceAdd,and_true]at Bt Ax Bj Ao
    (try clear B7 Ag As A8 Ae Af)
    go_wp2_with fail
    go_roundw
    case rel=>exact⟨k+1,n0,n1,n2,n3,F,EN,by omega,by first|(simp;done)|(simp;omega),fn.out,fF,HT'.out,trw,by first|(simp;done)|(simp;omega),⟨by go_simp,by go_simp,by go_simp,by go_simp,by go_simp,by go_simp,by go_simp,by go_simp,fun o=>by go_simp⟩,⟨by go_simp,by go_simp,fun o=>by go_simp⟩,⟨by go_simp,by go_simp,by go_simp,by go_simp,by go_simp,by go_simp,by go_simp,by go_simp,fun o=>by go_simp⟩,⟨by go_simp,by go_simp,fun o=>by go_simp⟩⟩
    case measure=>simp[intOf];omega
   ·have hq1:(q==0)=false:=by simpa using hq
    have hT':(⟨⟨p0,p1,p2,p3⟩,f,q⟩:Thr)=T:=(run_done (.inl hq)).symm.trans HT
    subst hT'
    clear HT
    go_wp2_with fail
    go_region_held3 (fun w'=>w'.cell? ⟨w5.heap.size,0,none⟩=some (Value.complex .f64 (fl p0.a) (fl p0.b))∧w'.cell? ⟨w5.heap.size,1,none⟩=some (Value.int .i64 p0.c)∧w'.cell? ⟨w5.heap.size,2,none⟩=some (Value.complex .f64 (fl p1.a) (fl p1.b))∧w'.cell? ⟨w5.heap.size,3,none⟩=some (Value.int .i64 p1.c)∧w'.cell? ⟨w5.heap.size,4,none⟩=some (Value.complex .f64 (fl p2.a) (fl p2.b))∧w'.cell? ⟨w5.heap.size,5,none⟩=some (Value.int .i64 p2.c)∧w'.cell? ⟨w5.heap.size,6,none⟩=some (Value.complex .f64 (fl p3.a) (fl p3.b))∧w'.cell? ⟨w5.heap.size,7,none⟩=some (Value.int .i64 p3.c)∧w'.cell? ⟨w5.heap.size+1,0,none⟩=some (Value.complex .f64 (fl f.a) (fl f.b))∧w'.cell? ⟨w5.heap.size+1,1,none⟩=some (Value.int .i64 f.c)) (simp[*,go_sem,World.cell?_setCell_far]) (fail)
    repeat' (first|go_values|go_skip|go_guarded|go_step|go_upon|(simp only[];go_simp))
    refine bodyPost_ret (by simp[results,Tryz.results100,go_sem, *];first|done|rfl) rfl ?_
    exact⟨by simp only[Mat.cells],trw⟩
  ·have hc1:¬((k:Int)+1≤len):=by omega
   have hT':(⟨⟨p0,p1,p2,p3⟩,f,q⟩:Thr)=T:=(run_done (.inr (List.drop_eq_nil_of_le (by omega)))).symm.trans HT
   subst hT'
   clear HT
   go_wp2_with fail
   go_region_held3 (fun w'=>w'.cell? ⟨w5.heap.size,0,none⟩=some (Value.complex .f64 (fl p0.a) (fl p0.b))∧w'.cell? ⟨w5.heap.size,1,none⟩=some (Value.int .i64 p0.c)∧w'.cell? ⟨w5.heap.size,2,none⟩=some (Value.complex .f64 (fl p1.a) (fl p1.b))∧w'.cell? ⟨w5.heap.size,3,none⟩=some (Value.int .i64 p1.c)∧w'.cell? ⟨w5.heap.size,4,none⟩=some (Value.complex .f64 (fl p2.a) (fl p2.b))∧w'.cell? ⟨w5.heap.size,5,none⟩=some (Value.int .i64 p2.c)∧w'.cell? ⟨w5.heap.size,6,none⟩=some (Value.complex .f64 (fl p3.a) (fl p3.b))∧w'.cell? ⟨w5.heap.size,7,none⟩=some (Value.int .i64 p3.c)∧w'.cell? ⟨w5.heap.size+1,0,none⟩=some (Value.complex .f64 (fl f.a) (fl f.b))∧w'.cell? ⟨w5.heap.size+1,1,none⟩=some (Value.int .i64 f.c)) (simp[*,go_sem,World.cell?_setCell_far]) (fail)
   repeat' (first|go_values|go_skip|go_guarded|go_step|go_upon|(simp only[];go_simp))
   refine bodyPost_ret (by simp[results,Tryz.results100,go_sem, *];first|done|rfl) rfl ?_
   exact⟨by simp only[Mat.cells],trw⟩
end Go.Proofs.YticobgianbecpaaGreatDoor
namespace Go.Proofs.YticobgianbecpaaGreatDoor
open Go Go.Sort Go.RowKit
theorem amp_is2 {e:Int}{A:Ask}{y l b1 b c1 c a d z x:Res}{t:Thr} (hy:Is y (admR e A (A.med 0))) (ht:t=thrR y.q A true) (hl:Is l (admR t.q A (A.med (A.ls.length+1)))) (h1:Is b1 (after l.q (ti t.p.m1 l))) (h2:Is b (after b1.q (pl t.p.m0 b1)))
  (h3:Is c1 (after b.q (ti t.p.m3 l))) (h4:Is c (after c1.q (pl t.p.m2 c1))) (h5:Is a (after c.q (ti y b))) (h6:Is d (after a.q (pl a c))) (h7:Is z (after d.q (pl y y))) (h8:Is x (after z.q (ti z t.f))):Is (ampE e A true) (after x.q (qt x d)):=by
 cases hy;subst ht;cases hl;cases h1;cases h2;cases h3;cases h4;cases h5;cases h6;cases h7;cases h8;unfold ampE Is;simp
set_option maxRecDepth 100000 in
set_option maxHeartbeats 16000000 in
theorem amp_yes_e (B:Nat) (e:Int) (A:Ask) (hA:AskOk A):LGives 36 #[.pointer (some ⟨B,0,none⟩),.bool true] B e A (ampE e A true):=by
 intro w Am
 have hlen:=hA.len
 have M0:=med_front A hA
 have M1:=med_last A hA
 obtain⟨Y,hY⟩:=is_ex (admR e A (A.med 0))
 have fY:Fine Y:=hY.fine (fine_adm _ _ _)
 obtain⟨t,ht⟩:∃t,t=thrR Y.q A true:=⟨_,rfl⟩
 have ft:t.p.fine∧Fine t.f:=by rw[ht];unfold thrR;exact run_fine _ _ ones fine_oneR
 obtain⟨L,hL⟩:=is_ex (admR t.q A (A.med (A.ls.length+1)))
 have fL:Fine L:=hL.fine (fine_adm _ _ _)
 obtain⟨b1,hb1⟩:=is_ex (after L.q (ti t.p.m1 L))
 have fb1:Fine b1:=hb1.fine (fine_after _ (fine_ti _ _))
 obtain⟨b,hb⟩:=is_ex (after b1.q (pl t.p.m0 b1))
 have fb:Fine b:=hb.fine (fine_after _ (fine_pl _ _))
 obtain⟨c1,hc1⟩:=is_ex (after b.q (ti t.p.m3 L))
 have fc1:Fine c1:=hc1.fine (fine_after _ (fine_ti _ _))
 obtain⟨c,hc⟩:=is_ex (after c1.q (pl t.p.m2 c1))
 have fc:Fine c:=hc.fine (fine_after _ (fine_pl _ _))
 obtain⟨a,ha⟩:=is_ex (after c.q (ti Y b))
 have fa:Fine a:=ha.fine (fine_after _ (fine_ti _ _))
 obtain⟨d,hd⟩:=is_ex (after a.q (pl a c))
 have fd:Fine d:=hd.fine (fine_after _ (fine_pl _ _))
 obtain⟨z,hz⟩:=is_ex (after d.q (pl Y Y))
 have fz:Fine z:=hz.fine (fine_after _ (fine_pl _ _))
 obtain⟨x,hx⟩:=is_ex (after z.q (ti z t.f))
 have fx:Fine x:=hx.fine (fine_after _ (fine_ti _ _))
 have HR:=amp_is2 hY ht hL hb1 hb hc1 hc ha hd hz hx
 obtain⟨R,hR⟩:=is_ex (after x.q (qt x d))
 rw[HR.out,← hR.out]
 have AD0:=(adm_any B e A 0 _ hA M0).to (by rw[med_zero]at hY;exact hY)
 have TH:=fun w L=>through_yes B Y.q A hA t (by rw[ht];unfold HidT thrR;rw[List.drop_zero]) w L
 have AD1:=(adm_any B t.q A (A.ls.length+1) _ hA M1).to (by rw[med_past]at hL;exact hL)
 clear HR ht hY hL M0 M1
 obtain⟨⟨P0,P1,P2,P3⟩,F,tq⟩:=t
 obtain⟨⟨fP0,fP1,fP2,fP3⟩,fF⟩:=ft
 simp only[Mat.cells]at hb1 hb hc1 hc hx AD1 TH fP0 fP1 fP2 fP3 fF
 have Tb1:=Lib.hid ((c_times B L.q P1 L fP1 fL).to hb1)
 have Tb:=Lib.hid ((c_plus B b1.q P0 b1 fP0 fb1).to hb)
 have Tc1:=Lib.hid ((c_times B b.q P3 L fP3 fL).to hc1)
 have Tc:=Lib.hid ((c_plus B c1.q P2 c1 fP2 fc1).to hc)
 have Ta:=Lib.hid ((c_times B c.q Y b fY fb).to ha)
 have Td:=Lib.hid ((c_plus B a.q a c fa fc).to hd)
 have Tz:=Lib.hid ((c_plus B d.q Y Y fY fY).to hz)
 have Tx:=Lib.hid ((c_times B z.q z F fz fF).to hx)
 have TR:=Lib.hid ((c_by B x.q x d fx fd).to hR)
 have AD0:=Lib.hid AD0
 have AD1:=Lib.hid AD1
 have TH:=Lib.hid TH
 clear hA hb1 hb hc1 hc ha hd hz hx hR fb1 fb fc1 fc fa fd fz fx fY fL fP0 fP1 fP2 fP3 fF
 have hw1:wrap64 ((A.ls.length:Int)+1)=A.ls.length+1:=IntWalk.wrap64_in _ ⟨by omega,by omega⟩
 have hw2:IntKind.i64.wrap ((A.ls.length:Int)+1)=A.ls.length+1:=IntWalk.i64_in _ ⟨by omega,by omega⟩
 have Az:=Am.st
 have G8:=tr_refl Az
 obtain⟨E5,E6,E7,E8,E9,Ea,Eb,Ec,Ed⟩:=Am.cells
 have Gt:=Az.cell
 have Gv:=Az.free
 have Hc:=Az.lt
 have I3:=own5 Hc
 go_enter Tryz.func36,Tryz.ntmps36
 go_wp2_with fail
 refine(AD0.out _ (Lt.turn Am (Trn.kp G8 kpw))).mono ?_
 rintro e w1 ⟨rfl,Cp⟩
 have Cl:=Cp.size_le
 (try simp at Cl)
 have C2:=tn5 Cp (w.heap.size)
 obtain⟨D3,Gi,Gn,Gx,Fu,E0⟩:=pkx Am G8 kpw Cp
 (try clear Gt Gv E5 E6 E7 E8 E9 Ea Eb Ec Ed I3)
 go_wp2_with fail
 refine(TH.out _ (Lt.turn Am (Trn.kp D3 kpw))).mono ?_
 rintro e w2 ⟨rfl,Al⟩
 have Cb:=Al.size_le
 (try simp at Cb)
 have Cr:=tn5 Al (w.heap.size)
 have D7:=tn5 Al (w1.heap.size)
 obtain⟨D4,Gj,Gp,Gy,Fv,E1⟩:=pkx Am D3 kpw Al
 (try clear E0)
 go_wp2_with fail
 refine(AD1.out _ (Lt.turn Am (Trn.kp D4 kpw))).mono ?_
 rintro e w3 ⟨rfl,Bq⟩
 have Cm:=Bq.size_le
 (try simp at Cm)
 have Bk:=tn5 Bq (w.heap.size)
 have B8:=tn5 Bq (w1.heap.size)
 have B9:=tn5 Bq (w2.heap.size)
 have Ah:=tn5 Bq (w2.heap.size+1)
 obtain⟨Cc,Gk,Gq,Gz,Fx,E2⟩:=pkx Am D4 kpw Bq
 (try clear E1)
 replace Bk:=cas5 Bk [.complex .f64 0 0,.int .i64 0]
 replace B8:=cas5 B8 [.complex .f64 (fl Y.a) (fl Y.b),.int .i64 Y.c]
 replace B9:=cas5 B9 [.complex .f64 (fl P0.a) (fl P0.b),.int .i64 P0.c,.complex .f64 (fl P1.a) (fl P1.b),.int .i64 P1.c,.complex .f64 (fl P2.a) (fl P2.b),.int .i64 P2.c,.complex .f64 (fl P3.a) (fl P3.b),.int .i64 P3.c]
 replace Ah:=cas5 Ah [.complex .f64 (fl F.a) (fl F.b),.int .i64 F.c]
 simp only[CAf,Nat.reduceAdd,and_true]at Bk B8 B9 Ah
 (try clear C2 Cr D7)
 go_wp2_with fail
 refine turn_new (fun i=>i==11||i==12) 13 #[.complex .f64 0 0,.int .i64 0] 57 _ rfl (by kernel_rfl) (by kernel_rfl) (by first|omega|(simp;omega)) (St.cell (St.turn Az (Trn.kp Cc kpw))) (fun a w=>by kernel_rfl) fun hG => ?_
 have Av:=fun o=>hG (w.heap.size) lto o (ne_addr (by omega))
 have Ap:=fun o=>hG (w1.heap.size) lto o (ne_addr (by omega))
 have Ci:=fun o=>hG (w2.heap.size) lto o (ne_addr (by omega))
 have A5:=fun o=>hG (w2.heap.size+1) lto o (ne_addr (by omega))
 have Cj:=fun o=>hG (w3.heap.size) lto o (ne_addr (by omega))
 have A1:=fun o=>hG B lto (o+1) ne_off
 clear hG
 simp only[List.take_succ_cons,List.take_zero,List.drop_succ_cons,List.drop_zero]
 repeat (first|(refine wpTurn_pure rfl (fun K hK => ?_);go_simp;first|(refine hK _ _ ?_;clear hK K)|(apply Exists.intro;refine⟨fun _ _ => ?_,hK _ _ ?_⟩;(first|fail);clear hK K))|(refine wpTurn_eff rfl (fun K hK => ?_);go_simp;(first|(first|with_reducible refine⟨_,_,fun _=>tur_st (St.turn Az (Trn.kp Cc kpw)) (fun w h=>Tb1.out w h),?_⟩|with_reducible refine⟨_,_,fun _=>tur_st (St.turn Az (Trn.kp Cc kpw)) (fun w h=>Tb.out w h),?_⟩));refine hK _ _ ?_;clear hK K))
 refine wpTurn_nil ?_
 intro B1 w4 hN
 obtain⟨Bg,A2,H2,Hr,Hv⟩:=hN
 (try simp at A2)
 clear A1 Av Ap Ci A5 Cj
 have Cn:=Bg.size_le
 (try simp at Cn)
 have Bl:=tn5 Bg (w.heap.size)
 have Ba:=tn5 Bg (w1.heap.size)
 have Bb:=tn5 Bg (w2.heap.size)
 have Ai:=tn5 Bg (w2.heap.size+1)
 have Bc:=tn5 Bg (w3.heap.size)
 obtain⟨Cd,Gl,Gr,H0,E4,E3⟩:=pkx Am Cc kpw Bg
 (try clear E2)
 have Gd:¬B1=w.heap.size:=by first|omega|(simp at A2;omega)
 have G9:¬w.heap.size=B1:=by first|omega|(simp at A2;omega)
 have Fb:¬B1=w1.heap.size:=by first|omega|(simp at A2;omega)
 have F3:¬w1.heap.size=B1:=by first|omega|(simp at A2;omega)
 have Fc:¬B1=w2.heap.size:=by first|omega|(simp at A2;omega)
 have F4:¬w2.heap.size=B1:=by first|omega|(simp at A2;omega)
 have Ds:¬B1=w2.heap.size+1:=by first|omega|(simp at A2;omega)
 have Do:¬w2.heap.size+1=B1:=by first|omega|(simp at A2;omega)
 have Fd:¬B1=w3.heap.size:=by first|omega|(simp at A2;omega)
 have F5:¬w3.heap.size=B1:=by first|omega|(simp at A2;omega)
 have Ep:¬B1=B:=by first|omega|(simp at A2;omega)
 have Eg:¬B=B1:=by first|omega|(simp at A2;omega)
 replace Bl:=cas5 Bl [.complex .f64 0 0,.int .i64 0]
 replace Ba:=cas5 Ba [.complex .f64 (fl Y.a) (fl Y.b),.int .i64 Y.c]
 replace Bb:=cas5 Bb [.complex .f64 (fl P0.a) (fl P0.b),.int .i64 P0.c,.complex .f64 (fl P1.a) (fl P1.b),.int .i64 P1.c,.complex .f64 (fl P2.a) (fl P2.b),.int .i64 P2.c,.complex .f64 (fl P3.a) (fl P3.b),.int .i64 P3.c]
 replace Bc:=cas5 Bc [.complex .f64 (fl L.a) (fl L.b),.int .i64 L.c]
 replace Ai:=cas5 Ai [.complex .f64 (fl F.a) (fl F.b),.int .i64 F.c]
 simp only[CAf,Nat.reduceAdd,and_true]at Bl Ba Bb Bc Ai
 (try clear Bk B8 B9 Ah)
 go_wp2_with fail
 refine turn_new (fun i=>i==11||i==12) 13 #[.complex .f64 0 0,.int .i64 0] 57 _ rfl (by kernel_rfl) (by kernel_rfl) (by first|omega|(simp;omega)) (St.cell (St.turn Az (Trn.kp Cd kpw))) (fun a w=>by kernel_rfl) fun hG => ?_
 have Av:=fun o=>hG (w.heap.size) lto o (ne_addr (by omega))
 have Ap:=fun o=>hG (w1.heap.size) lto o (ne_addr (by omega))
 have Ci:=fun o=>hG (w2.heap.size) lto o (ne_addr (by omega))
 have A5:=fun o=>hG (w2.heap.size+1) lto o (ne_addr (by omega))
 have Cj:=fun o=>hG (w3.heap.size) lto o (ne_addr (by omega))
 have C0:=fun o=>hG (B1) lto o (ne_addr (by omega))
 have A1:=fun o=>hG B lto (o+1) ne_off
 clear hG
 simp only[List.take_succ_cons,List.take_zero,List.drop_succ_cons,List.drop_zero]
 repeat (first|(refine wpTurn_pure rfl (fun K hK => ?_);go_simp;first|(refine hK _ _ ?_;clear hK K)|(apply Exists.intro;refine⟨fun _ _ => ?_,hK _ _ ?_⟩;(first|fail);clear hK K))|(refine wpTurn_eff rfl (fun K hK => ?_);go_simp;(first|(first|with_reducible refine⟨_,_,fun _=>tur_st (St.turn Az (Trn.kp Cd kpw)) (fun w h=>Tc1.out w h),?_⟩|with_reducible refine⟨_,_,fun _=>tur_st (St.turn Az (Trn.kp Cd kpw)) (fun w h=>Tc.out w h),?_⟩));refine hK _ _ ?_;clear hK K))
 refine wpTurn_nil ?_
 intro B2 w5 hN
 obtain⟨B0,A0,H3,Hs,Hw⟩:=hN
 (try simp at A0)
 clear A1 Av Ap Ci A5 Cj C0
 have Co:=B0.size_le
 (try simp at Co)
 have Bm:=tn5 B0 (w.heap.size)
 have Bd:=tn5 B0 (w1.heap.size)
 have D8:=tn5 B0 (w2.heap.size)
 have Aj:=tn5 B0 (w2.heap.size+1)
 have D9:=tn5 B0 (w3.heap.size)
 have At:=tn5 B0 (B1)
 obtain⟨D5,Gm,Gs,H1,Fy,Fr⟩:=pkx Am Cd kpw B0
 (try clear E3 E4)
 have Ge:¬B2=w.heap.size:=by first|omega|(simp at A0;omega)
 have Ga:¬w.heap.size=B2:=by first|omega|(simp at A0;omega)
 have Fe:¬B2=w1.heap.size:=by first|omega|(simp at A0;omega)
 have F6:¬w1.heap.size=B2:=by first|omega|(simp at A0;omega)
 have Ff:¬B2=w2.heap.size:=by first|omega|(simp at A0;omega)
 have F7:¬w2.heap.size=B2:=by first|omega|(simp at A0;omega)
 have Dt:¬B2=w2.heap.size+1:=by first|omega|(simp at A0;omega)
 have Dp:¬w2.heap.size+1=B2:=by first|omega|(simp at A0;omega)
 have Fg:¬B2=w3.heap.size:=by first|omega|(simp at A0;omega)
 have F8:¬w3.heap.size=B2:=by first|omega|(simp at A0;omega)
 have Er:¬B2=B1:=by first|omega|(simp at A0;omega)
 have Ei:¬B1=B2:=by first|omega|(simp at A0;omega)
 have Eq:¬B2=B:=by first|omega|(simp at A0;omega)
 have Eh:¬B=B2:=by first|omega|(simp at A0;omega)
 replace Bm:=cas5 Bm [.complex .f64 0 0,.int .i64 0]
 replace Bd:=cas5 Bd [.complex .f64 (fl Y.a) (fl Y.b),.int .i64 Y.c]
 replace At:=cas5 At [.complex .f64 (fl b.a) (fl b.b),.int .i64 b.c]
 replace Aj:=cas5 Aj [.complex .f64 (fl F.a) (fl F.b),.int .i64 F.c]
 simp only[CAf,Nat.reduceAdd,and_true]at Bm Bd At Aj
 (try clear Bl Ba Bb Ai Bc)
 go_wp2_with fail
 refine turn_new (fun i=>i==5) 6 #[.complex .f64 0 0,.int .i64 0] 57 _ rfl (by kernel_rfl) (by kernel_rfl) (by first|omega|(simp;omega)) (St.cell (St.turn Az (Trn.kp D5 kpw))) (fun a w=>by kernel_rfl) fun hG => ?_
 have Av:=fun o=>hG (w.heap.size) lto o (ne_addr (by omega))
 have Ap:=fun o=>hG (w1.heap.size) lto o (ne_addr (by omega))
 have A5:=fun o=>hG (w2.heap.size+1) lto o (ne_addr (by omega))
 have C0:=fun o=>hG (B1) lto o (ne_addr (by omega))
 have C1:=fun o=>hG (B2) lto o (ne_addr (by omega))
 have A1:=fun o=>hG B lto (o+1) ne_off
 clear hG
 simp only[List.take_succ_cons,List.take_zero,List.drop_succ_cons,List.drop_zero]
 repeat (first|(refine wpTurn_pure rfl (fun K hK => ?_);go_simp;first|(refine hK _ _ ?_;clear hK K)|(apply Exists.intro;refine⟨fun _ _ => ?_,hK _ _ ?_⟩;(first|fail);clear hK K))|(refine wpTurn_eff rfl (fun K hK => ?_);go_simp;(first|(with_reducible refine⟨_,_,fun _=>tur_st (St.turn Az (Trn.kp D5 kpw)) (fun w h=>Ta.out w h),?_⟩));refine hK _ _ ?_;clear hK K))
 refine wpTurn_nil ?_
 intro B3 w6 hN
 obtain⟨Bh,A3,H4,Ht,Hx⟩:=hN
 (try simp at A3)
 clear A1 Av Ap A5 C0 C1
 have Fj:=Bh.size_le
 (try simp at Fj)
 have Bu:=tn5 Bh (w.heap.size)
 have Be:=tn5 Bh (w1.heap.size)
 have Ak:=tn5 Bh (w2.heap.size+1)
 have Ct:=tn5 Bh (B1)
 have Au:=tn5 Bh (B2)
 obtain⟨Dl,I4,I7,Ib,H9,H6⟩:=pkx Am D5 kpw Bh
 (try clear Fr Fy)
 have Gf:¬B3=w.heap.size:=by first|omega|(simp at A3;omega)
 have Gb:¬w.heap.size=B3:=by first|omega|(simp at A3;omega)
 have Fh:¬B3=w1.heap.size:=by first|omega|(simp at A3;omega)
 have F9:¬w1.heap.size=B3:=by first|omega|(simp at A3;omega)
 have Du:¬B3=w2.heap.size+1:=by first|omega|(simp at A3;omega)
 have Dq:¬w2.heap.size+1=B3:=by first|omega|(simp at A3;omega)
 have Et:¬B3=B1:=by first|omega|(simp at A3;omega)
 have Ek:¬B1=B3:=by first|omega|(simp at A3;omega)
 have Eu:¬B3=B2:=by first|omega|(simp at A3;omega)
 have El:¬B2=B3:=by first|omega|(simp at A3;omega)
 have Es:¬B3=B:=by first|omega|(simp at A3;omega)
 have Ej:¬B=B3:=by first|omega|(simp at A3;omega)
 replace Bu:=cas5 Bu [.complex .f64 0 0,.int .i64 0]
 replace Be:=cas5 Be [.complex .f64 (fl Y.a) (fl Y.b),.int .i64 Y.c]
 replace Au:=cas5 Au [.complex .f64 (fl c.a) (fl c.b),.int .i64 c.c]
 replace Ak:=cas5 Ak [.complex .f64 (fl F.a) (fl F.b),.int .i64 F.c]
 simp only[CAf,Nat.reduceAdd,and_true]at Bu Be Au Ak
 (try clear Bm Bd D8 Aj D9 At)
 go_wp2_with fail
 refine turn_new (fun i=>i==5) 6 #[.complex .f64 0 0,.int .i64 0] 57 _ rfl (by kernel_rfl) (by kernel_rfl) (by first|omega|(simp;omega)) (St.cell (St.turn Az (Trn.kp Dl kpw))) (fun a w=>by kernel_rfl) fun hG => ?_
 have Av:=fun o=>hG (w.heap.size) lto o (ne_addr (by omega))
 have Ap:=fun o=>hG (w1.heap.size) lto o (ne_addr (by omega))
 have A5:=fun o=>hG (w2.heap.size+1) lto o (ne_addr (by omega))
 have C1:=fun o=>hG (B2) lto o (ne_addr (by omega))
 have Dm:=fun o=>hG (B3) lto o (ne_addr (by omega))
 have A1:=fun o=>hG B lto (o+1) ne_off
 clear hG
 simp only[List.take_succ_cons,List.take_zero,List.drop_succ_cons,List.drop_zero]
 repeat (first|(refine wpTurn_pure rfl (fun K hK => ?_);go_simp;first|(refine hK _ _ ?_;clear hK K)|(apply Exists.intro;refine⟨fun _ _ => ?_,hK _ _ ?_⟩;(first|fail);clear hK K))|(refine wpTurn_eff rfl (fun K hK => ?_);go_simp;(first|(with_reducible refine⟨_,_,fun _=>tur_st (St.turn Az (Trn.kp Dl kpw)) (fun w h=>Td.out w h),?_⟩));refine hK _ _ ?_;clear hK K))
 refine wpTurn_nil ?_
 intro B4 w7 hN
 obtain⟨Bi,A4,H5,Hu,Hy⟩:=hN
 (try simp at A4)
 clear A1 Av Ap A5 C1 Dm
 have Fk:=Bi.size_le
 (try simp at Fk)
 have C3:=tn5 Bi (w.heap.size)
 have Bv:=tn5 Bi (w1.heap.size)
 have Ay:=tn5 Bi (w2.heap.size+1)
 have Bn:=tn5 Bi (B2)
 have Bo:=tn5 Bi (B3)
 obtain⟨Ch,I5,I8,Ic,Ha,H7⟩:=pkx Am Dl kpw Bi
 (try clear H6 H9)
 have Gg:¬B4=w.heap.size:=by first|omega|(simp at A4;omega)
 have Gc:¬w.heap.size=B4:=by first|omega|(simp at A4;omega)
 have Fi:¬B4=w1.heap.size:=by first|omega|(simp at A4;omega)
 have Fa:¬w1.heap.size=B4:=by first|omega|(simp at A4;omega)
 have Dv:¬B4=w2.heap.size+1:=by first|omega|(simp at A4;omega)
 have Dr:¬w2.heap.size+1=B4:=by first|omega|(simp at A4;omega)
 have Ew:¬B4=B2:=by first|omega|(simp at A4;omega)
 have En:¬B2=B4:=by first|omega|(simp at A4;omega)
 have Ex:¬B4=B3:=by first|omega|(simp at A4;omega)
 have Eo:¬B3=B4:=by first|omega|(simp at A4;omega)
 have Ev:¬B4=B:=by first|omega|(simp at A4;omega)
 have Em:¬B=B4:=by first|omega|(simp at A4;omega)
 replace C3:=cas5 C3 [.complex .f64 0 0,.int .i64 0]
 replace Bv:=cas5 Bv [.complex .f64 (fl Y.a) (fl Y.b),.int .i64 Y.c]
 replace Bn:=cas5 Bn [.complex .f64 (fl c.a) (fl c.b),.int .i64 c.c]
 replace Bo:=cas5 Bo [.complex .f64 (fl a.a) (fl a.b),.int .i64 a.c]
 replace Ay:=cas5 Ay [.complex .f64 (fl F.a) (fl F.b),.int .i64 F.c]
 simp only[CAf,Nat.reduceAdd,and_true]at C3 Bv Bn Bo Ay
 (try clear Bu Be Ak Ct Au)
 go_wp2_with fail
 refine turn (fun i=>i==11||i==13||i==15) 16 (by kernel_rfl) (by kernel_rfl) (St.cell (St.turn Az (Trn.kp Ch kpw))) fun hG => ?_
 have Av:=fun o=>hG (w.heap.size) lto o (ne_addr (by omega))
 have Ap:=fun o=>hG (w1.heap.size) lto o (ne_addr (by omega))
 have A5:=fun o=>hG (w2.heap.size+1) lto o (ne_addr (by omega))
 have Dn:=fun o=>hG (B4) lto o (ne_addr (by omega))
 have A1:=fun o=>hG B lto (o+1) ne_off
 clear hG
 simp only[List.take_succ_cons,List.take_zero,List.drop_succ_cons,List.drop_zero]
 repeat (first|(refine wpTurn_pure rfl (fun K hK => ?_);go_simp;first|(refine hK _ _ ?_;clear hK K)|(apply Exists.intro;refine⟨fun _ _ => ?_,hK _ _ ?_⟩;(first|fail);clear hK K))|(refine wpTurn_eff rfl (fun K hK => ?_);go_simp;(first|(first|with_reducible refine⟨_,_,fun _=>tur_st (St.turn Az (Trn.kp Ch kpw)) (fun w h=>Tz.out w h),?_⟩|with_reducible refine⟨_,_,fun _=>tur_st (St.turn Az (Trn.kp Ch kpw)) (fun w h=>Tx.out w h),?_⟩|with_reducible refine⟨_,_,fun _=>tur_st (St.turn Az (Trn.kp Ch kpw)) (fun w h=>TR.out w h),?_⟩));refine hK _ _ ?_;clear hK K))
 refine wpTurn_nil ?_
 intro w8 Br
 clear A1 Av Ap A5 Dn
 have Fl:=Br.size_le
 (try simp at Fl)
 have H8:=tn5 Br (w.heap.size)
 have Gh:=tn5 Br (w1.heap.size)
 have F1:=tn5 Br (w2.heap.size+1)
 have Ft:=tn5 Br (B4)
 obtain⟨Ia,I6,I9,Id,Ig,If⟩:=pkx Am Ch kpw Br
 (try clear H7 Ha)
 repeat' (first|go_values|go_skip|go_guarded|go_step|go_upon|(simp only[];go_simp))
 refine bodyPost_ret (by simp[results,Tryz.results36,go_sem, *];first|done|rfl) rfl ?_
 exact⟨rfl,trw⟩
theorem amp_yes (B:Nat) (A:Ask) (hA:AskOk A):LGives 36 #[.pointer (some ⟨B,0,none⟩),.bool true] B 0 A (ampR A true):=by
 rw[← ampE_zero];exact amp_yes_e B 0 A hA
end Go.Proofs.YticobgianbecpaaGreatDoor
namespace Go.Proofs.YticobgianbecpaaGreatDoor
open Go Go.Sort Go.RowKit
set_option maxHeartbeats 2000000 in
theorem Transmitted_any (A:Ask) (hA:AskOk A) (w:World) (hr:Row A.pa A.ls w) (hpa:∀a,A.pa=some a→a.block<w.heap.size) :
  Calls Tryz.prog 28 #[A.val] w fun e w'=>e = .returned (out (ampR A true))∧Below w.heap.size w w':=by
 rw[out_quad]
 have OP:=fun w hr hpa=>open_any A hA w hr hpa
 unfold Ask.val at OP ⊢
 have AM:=fun n=>amp_yes n A hA
 have fR:=fine_amp A true
 have RA:=fun B w S=>result_any B (ampR A true) fR w S
 rw[out_quad]at RA
 generalize ampR A true=R at *
 have OP:=Lib.hid OP
 have AM:=Lib.hid AM
 have RA:=Lib.hid RA
 have HR:=Lib.hid hr
 have HP:=Lib.hid hpa
 clear hr hpa hA fR
 go_enter Tryz.func28,Tryz.ntmps28
 go_wp2_with fail
 refine(OP.out _ (HR.out.bel blw) (fun a h=>by have:=HP.out a h;simp;omega)).mono ?_
 rintro e w1 ⟨n,hn,rfl,hL,Bf⟩
 simp at hn
 have C2:=bl5 Bf (w.heap.size)
 have Cq:=bl5 Bf (w.heap.size+1)
 go_wp2_with fail
 refine(AM.out n _ hL).mono ?_
 rintro e w2 ⟨rfl,Al⟩
 have Cb:=Al.size_le
 have Ee:=fun o=>Al.other (k:=w.heap.size+1) (o:=o) (by omega) (ne_addr (by omega))
 have Ef:=fun o=>Al.free (k:=w.heap.size+1) (o:=o) (by omega)
 have Bw:Below w.heap.size w w2:=Below.trans (show Below w.heap.size w w1 from blw) (Al.below (by omega) (by omega))
 have hS:=(hL.turn Al).st
 clear hL
 have Ey:w.heap.size+1<w2.heap.size:=by omega
 go_wp2_with fail
 refine(RA.out n _ hS).mono ?_
 rintro e w3 ⟨rfl,Bp⟩
 have Cs:=bl5 Bp (w.heap.size+1)
 repeat' (first|go_values|go_skip|go_guarded|go_step|go_upon|(simp only[];go_simp))
 refine bodyPost_ret (by simp[results,Tryz.results28,go_sem, *];first|done|rfl) rfl ?_
 exact⟨rfl,blw⟩
end Go.Proofs.YticobgianbecpaaGreatDoor
