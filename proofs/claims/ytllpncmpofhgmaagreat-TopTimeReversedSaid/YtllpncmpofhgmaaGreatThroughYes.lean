/- The product of the layers with that of their factors: the program's walk (gen_ampyes.py). -/
import Derived.Test.YtllpncmpofhgmaaGreatKThr
namespace Go.Proofs.YtllpncmpofhgmaaGreat
open Go Go.Sort Go.RowKit
theorem step_yes {A:Ask}{s:Thr}{b:Box}{y g x f:Res} (hy:Is y (admR s.q A b)) (hg:Is g (facR y.q A b 2)) (hx:Is x (facR g.q A b 1)) (hf:Is f (after x.q (ti s.f x))) :
  stepR A true s b=⟨(mulR (matR f.q y g).2 s.p (matR f.q y g).1).1,f,(mulR (matR f.q y g).2 s.p (matR f.q y g).1).2⟩:=by
 cases hy;cases hg;cases hx;cases hf;unfold stepR;simp
set_option maxRecDepth 100000 in
set_option maxHeartbeats 8000000 in
theorem through_yes (B:Nat) (e:Int) (A:Ask) (hA:AskOk A) (T:Thr) (hT:HidT A true ⟨⟨oneR,noneR,noneR,oneR⟩,oneR,e⟩ T 0) (w:World) (Ao:Lt B e A w) :
  Calls Tryz.prog 70 #[.pointer (some ⟨B,0,none⟩),.bool true] w fun E w'=>E = .returned (.tuple #[.agg T.p.cells,.agg #[.complex .f64 (fl T.f.a) (fl T.f.b),.int .i64 T.f.c]])∧Trn B T.q w w':=by
 have hlen:=hA.len
 have Br:=Ao.st
 have E9:=tr_refl Br
 obtain⟨D8,D9,Da,Db,Dc,Dd,De,Df,Dg⟩:=Ao.cells
 have Eb:=Br.cell
 have Ec:=Br.free
 have El:=Br.lt
 have Em:=own5 El
 go_enter Tryz.func70,Tryz.ntmps70
 go_wp2_with fail
 refine(one_cl _).mono ?_
 rintro e w1 ⟨rfl,Ay⟩
 have C1:=Ay.size
 (try simp at C1)
 have Cv:=bl5 Ay (w.heap.size)
 have C6:=bl5 Ay (w.heap.size+1)
 obtain⟨Co,Dz,E4,Ed,D3,Cu⟩:=pkb Ao E9 kpw Ay
 (try clear Eb Ec D8 D9 Da Db Dc Dd De Df Dg)
 go_wp2_with fail
 refine(none_cl _).mono ?_
 rintro e w2 ⟨rfl,Az⟩
 have C2:=Az.size
 (try simp at C2)
 have Cx:=bl5 Az (w.heap.size)
 have Ca:=bl5 Az (w.heap.size+1)
 obtain⟨Cp,E0,E5,Ee,D4,Cw⟩:=pkb Ao Co kpw Az
 (try clear Cu D3)
 go_wp2_with fail
 refine(none_cl _).mono ?_
 rintro e w3 ⟨rfl,B0⟩
 have C3:=B0.size
 (try simp at C3)
 have Cz:=bl5 B0 (w.heap.size)
 have Cb:=bl5 B0 (w.heap.size+1)
 obtain⟨Cq,E1,E6,Ef,D5,Cy⟩:=pkb Ao Cp kpw B0
 (try clear Cw D4)
 go_wp2_with fail
 refine(one_cl _).mono ?_
 rintro e w4 ⟨rfl,B1⟩
 have C4:=B1.size
 (try simp at C4)
 have D1:=bl5 B1 (w.heap.size)
 have Cc:=bl5 B1 (w.heap.size+1)
 obtain⟨Cr,E2,E7,Eg,D6,D0⟩:=pkb Ao Cq kpw B1
 (try clear Cy D5)
 go_wp2_with fail
 refine(one_cl _).mono ?_
 rintro e w5 ⟨rfl,B2⟩
 have C5:=B2.size
 (try simp at C5)
 have D2:=bl5 B2 (w.heap.size)
 have Cd:=bl5 B2 (w.heap.size+1)
 obtain⟨Ea,E3,E8,Eh,Ek,Ej⟩:=pkb Ao Cr kpw B2
 (try clear D0 D6)
 go_wp2_with fail
 go_loopw [8] (fun i wr=>∃(k:Nat) (p0 p1 p2 p3 f:Res) (q:Int),k≤A.ls.length∧i = .int .i64 (k+1)∧(⟨p0,p1,p2,p3⟩:Mat).fine∧Fine f∧HidT A true ⟨⟨p0,p1,p2,p3⟩,f,q⟩ T k∧Trn B q w wr∧w5.heap.size+1<wr.heap.size∧At8 wr w.heap.size (Value.complex .f64 0 0) (Value.int .i64 0) (Value.complex .f64 0 0) (Value.int .i64 0) (Value.complex .f64 0 0) (Value.int .i64 0) (Value.complex .f64 0 0) (Value.int .i64 0)∧At2 wr (w.heap.size+1) (Value.complex .f64 0 0) (Value.int .i64 0)∧At8 wr w5.heap.size (Value.complex .f64 (fl p0.a) (fl p0.b)) (Value.int .i64 p0.c) (Value.complex .f64 (fl p1.a) (fl p1.b)) (Value.int .i64 p1.c) (Value.complex .f64 (fl p2.a) (fl p2.b)) (Value.int .i64 p2.c) (Value.complex .f64 (fl p3.a) (fl p3.b)) (Value.int .i64 p3.c)∧At2 wr (w5.heap.size+1) (Value.complex .f64 (fl f.a) (fl f.b)) (Value.int .i64 f.c)) (fun i _=>A.ls.length+1-(intOf i).toNat)
 case atStart=>exact⟨0,oneR,noneR,noneR,oneR,oneR,e,by omega,rfl,ones,fine_oneR,hT,trw,by simp,⟨by go_simp,by go_simp,by go_simp,by go_simp,by go_simp,by go_simp,by go_simp,by go_simp,fun o=>by go_simp⟩,⟨by go_simp,by go_simp,fun o=>by go_simp⟩,⟨by go_simp,by go_simp,by go_simp,by go_simp,by go_simp,by go_simp,by go_simp,by go_simp,fun o=>by go_simp⟩,⟨by go_simp,by go_simp,fun o=>by go_simp⟩⟩
 case round =>
  obtain⟨k,p0,p1,p2,p3,f,q,hk,rfl,fp,ff,HT,Bg,hsz,⟨Bh,Bi,Bj,Bk,Bl,Bm,Bn,Bo,Bp⟩,⟨B3,B4,B5⟩,⟨B7,B8,B9,Ba,Bb,Bc,Bd,Be,Bf⟩,⟨At,Au,Av⟩⟩:=hrel
  clear hT
  have hd0:¬w.heap.size=w5.heap.size:=by omega
  have he0:¬w5.heap.size=w.heap.size:=by omega
  have hd1:¬w.heap.size=w5.heap.size+1:=by omega
  have he1:¬w5.heap.size+1=w.heap.size:=by omega
  have hd2:¬w.heap.size+1=w5.heap.size:=by omega
  have he2:¬w5.heap.size=w.heap.size+1:=by omega
  have Ei:=Bg.le
  have C0:=Lt.turn Ao Bg
  have Bs:=C0.st
  obtain⟨Cf,Cg,Ch,Ci,Cj,Ck,Cl,Cm,Cn⟩:=C0.cells
  have Cs:=Bs.cell
  have Ct:=Bs.free
  have Dh:=Bs.lt
  have D7:=own5 Dh
  generalize hln:A.ls.length=len at *
  by_cases hlt:k<len
  ·have hc1:((k:Int)+1≤len):=by omega
   by_cases hq:q=0
   ·have hq1:(q==0)=true:=by simpa using hq
    obtain⟨b,hb⟩:∃b,A.ls[k]?=some b:=⟨_,List.getElem?_eq_getElem (by omega)⟩
    have hM:Med A ((k:Int)+1) b:=med_layer A hA k b hb
    obtain⟨Y,hY⟩:=is_ex (admR q A b)
    have fY:Fine Y:=hY.fine (fine_adm _ _ _)
    obtain⟨G,hG⟩:=is_ex (facR Y.q A b 2)
    have fG:Fine G:=hG.fine (fine_fac _ _ _ _)
    have AD:=Lib.hid ((adm_any B q A ((k:Int)+1) b hA hM).to hY)
    obtain⟨X,hX⟩:=is_ex (facR G.q A b 1)
    have fX:Fine X:=hX.fine (fine_fac _ _ _ _)
    obtain⟨F,hF⟩:=is_ex (after X.q (ti f X))
    have fF:Fine F:=hF.fine (fine_after _ (fine_ti _ _))
    have FX:=Lib.hid ((factor_any B G.q A ((k:Int)+1) b k 1 hA hb rfl (.inl rfl)).to hX)
    have TF:=Lib.hid ((c_times B X.q f X ff fX).to hF)
    have FA:=Lib.hid ((factor_any B Y.q A ((k:Int)+1) b k 2 hA hb rfl (.inr rfl)).to hG)
    have MA:=fun w L=>matrix_any B F.q A Y G fY fG w L
    have fm:=mat_fine F.q Y G
    have ST:=step_yes (s:=⟨⟨p0,p1,p2,p3⟩,f,q⟩) hY hG hX hF
    generalize hm:matR F.q Y G=M at *
    obtain⟨⟨m0,m1,m2,m3⟩,EM⟩:=M
    have MU:=fun w L=>mul_any B EM A ⟨p0,p1,p2,p3⟩ ⟨m0,m1,m2,m3⟩ fp fm w L
    have fn:=mul_fine EM ⟨p0,p1,p2,p3⟩ ⟨m0,m1,m2,m3⟩
    simp only at ST
    generalize hn:mulR EM ⟨p0,p1,p2,p3⟩ ⟨m0,m1,m2,m3⟩=N at *
    obtain⟨⟨n0,n1,n2,n3⟩,EN⟩:=N
    simp only[Mat.cells]at MA MU ST fn
    have HT':HidT A true ⟨⟨n0,n1,n2,n3⟩,F,EN⟩ T (k+1):=by have h:=HT;unfold HidT at h ⊢;rw[run_step hq hb,ST]at h;exact h
    have MA:=Lib.hid MA
    have MU:=Lib.hid MU
    have HT':=Lib.hid HT'
    have fn:=Lib.hid fn
    clear HT ST hm hn hM fm hq hb
    go_wp2_with fail
    refine(AD.out _ (Lt.turn Ao (Trn.kp Bg kpw))).mono ?_
    rintro e w21 ⟨rfl,Ag⟩
    have Bu:=Ag.size_le
    (try simp at Bu)
    have Ai:=tn5 Ag (w.heap.size)
    have A5:=tn5 Ag (w.heap.size+1)
    have Ad:=tn5 Ag (w5.heap.size)
    have A0:=tn5 Ag (w5.heap.size+1)
    obtain⟨Bq,Di,Dm,Dr,Dw,C7⟩:=pkx Ao Bg kpw Ag
    (try clear Cs Ct Cf Cg Ch Ci Cj Ck Cl Cm Cn D7)
    replace Ai:=cas5 Ai [.complex .f64 0 0,.int .i64 0,.complex .f64 0 0,.int .i64 0,.complex .f64 0 0,.int .i64 0,.complex .f64 0 0,.int .i64 0]
    replace A5:=cas5 A5 [.complex .f64 0 0,.int .i64 0]
    replace Ad:=cas5 Ad [.complex .f64 (fl p0.a) (fl p0.b),.int .i64 p0.c,.complex .f64 (fl p1.a) (fl p1.b),.int .i64 p1.c,.complex .f64 (fl p2.a) (fl p2.b),.int .i64 p2.c,.complex .f64 (fl p3.a) (fl p3.b),.int .i64 p3.c]
    replace A0:=cas5 A0 [.complex .f64 (fl f.a) (fl f.b),.int .i64 f.c]
    simp only[CAf,Nat.reduceAdd,and_true]at Ai A5 Ad A0
    (try clear Bp Bh Bi Bj Bk Bl Bm Bn Bo B5 B3 B4 Bf B7 B8 B9 Ba Bb Bc Bd Be Av At Au)
    go_wp2_with fail
    refine(FA.out _ (Lt.turn Ao (Trn.kp Bq kpw))).mono ?_
    rintro e w22 ⟨rfl,Ab⟩
    have Bv:=Ab.size_le
    (try simp at Bv)
    have Aj:=tn5 Ab (w.heap.size)
    have A7:=tn5 Ab (w.heap.size+1)
    have Ae:=tn5 Ab (w5.heap.size)
    have A1:=tn5 Ab (w5.heap.size+1)
    have A6:=tn5 Ab (w21.heap.size)
    obtain⟨Aw,Dj,Dn,Ds,Dx,C8⟩:=pkx Ao Bq kpw Ab
    (try clear C7)
    replace Aj:=cas5 Aj [.complex .f64 0 0,.int .i64 0,.complex .f64 0 0,.int .i64 0,.complex .f64 0 0,.int .i64 0,.complex .f64 0 0,.int .i64 0]
    replace A7:=cas5 A7 [.complex .f64 0 0,.int .i64 0]
    replace Ae:=cas5 Ae [.complex .f64 (fl p0.a) (fl p0.b),.int .i64 p0.c,.complex .f64 (fl p1.a) (fl p1.b),.int .i64 p1.c,.complex .f64 (fl p2.a) (fl p2.b),.int .i64 p2.c,.complex .f64 (fl p3.a) (fl p3.b),.int .i64 p3.c]
    replace A1:=cas5 A1 [.complex .f64 (fl f.a) (fl f.b),.int .i64 f.c]
    replace A6:=cas5 A6 [.complex .f64 (fl Y.a) (fl Y.b),.int .i64 Y.c]
    simp only[CAf,Nat.reduceAdd,and_true]at Aj A7 Ae A1 A6
    (try clear Ai A5 Ad A0)
    go_wp2_with fail
    refine turn (fun i=>i==6||i==7) 8 (by kernel_rfl) (by kernel_rfl) (St.cell (St.turn Br (Trn.kp Aw kpw))) fun hG => ?_
    have Bt:=fun o=>hG (w.heap.size) lto o (ne_addr (by omega))
    have As:=fun o=>hG (w.heap.size+1) lto o (ne_addr (by omega))
    have B6:=fun o=>hG (w5.heap.size) lto o (ne_addr (by omega))
    have Am:=fun o=>hG (w5.heap.size+1) lto o (ne_addr (by omega))
    have Aq:=fun o=>hG (w21.heap.size) lto o (ne_addr (by omega))
    have Ar:=fun o=>hG (w22.heap.size) lto o (ne_addr (by omega))
    have Ap:=fun o=>hG B lto (o+1) ne_off
    clear hG
    simp only[List.take_succ_cons,List.take_zero,List.drop_succ_cons,List.drop_zero]
    repeat (first|(refine wpTurn_pure rfl (fun K hK => ?_);go_simp;first|(refine hK _ _ ?_;clear hK K)|(apply Exists.intro;refine⟨fun _ _ => ?_,hK _ _ ?_⟩;(first|fail);clear hK K))|(refine wpTurn_eff rfl (fun K hK => ?_);go_simp;(first|(first|with_reducible refine⟨_,_,fun _=>tur_lt (Lt.turn Ao (Trn.kp Aw kpw)) (fun w h=>FX.out w h),?_⟩|with_reducible refine⟨_,_,fun _=>tur_st (St.turn Br (Trn.kp Aw kpw)) (fun w h=>TF.out w h),?_⟩));refine hK _ _ ?_;clear hK K))
    refine wpTurn_nil ?_
    intro w23 A3
    clear Ap Bt As B6 Am Aq Ar
    have Bw:=A3.size_le
    (try simp at Bw)
    have Ak:=tn5 A3 (w.heap.size)
    have Aa:=tn5 A3 (w.heap.size+1)
    have Af:=tn5 A3 (w5.heap.size)
    have A2:=tn5 A3 (w5.heap.size+1)
    have A8:=tn5 A3 (w21.heap.size)
    have A9:=tn5 A3 (w22.heap.size)
    obtain⟨Ax,Dk,Do,Dt,Ce,C9⟩:=pkx Ao Aw kpw A3
    (try clear C8)
    replace Ak:=cas5 Ak [.complex .f64 0 0,.int .i64 0,.complex .f64 0 0,.int .i64 0,.complex .f64 0 0,.int .i64 0,.complex .f64 0 0,.int .i64 0]
    replace Aa:=cas5 Aa [.complex .f64 0 0,.int .i64 0]
    replace Af:=cas5 Af [.complex .f64 (fl p0.a) (fl p0.b),.int .i64 p0.c,.complex .f64 (fl p1.a) (fl p1.b),.int .i64 p1.c,.complex .f64 (fl p2.a) (fl p2.b),.int .i64 p2.c,.complex .f64 (fl p3.a) (fl p3.b),.int .i64 p3.c]
    replace A2:=cas5 A2 [.complex .f64 (fl f.a) (fl f.b),.int .i64 f.c]
    replace A8:=cas5 A8 [.complex .f64 (fl Y.a) (fl Y.b),.int .i64 Y.c]
    replace A9:=cas5 A9 [.complex .f64 (fl G.a) (fl G.b),.int .i64 G.c]
    simp only[CAf,Nat.reduceAdd,and_true]at Ak Aa Af A2 A8 A9
    (try clear Aj A7 Ae A1 A6)
    go_wp2_with fail
    refine turn (fun i=>i==5||i==6) 7 (by kernel_rfl) (by kernel_rfl) (St.cell (St.turn Br (Trn.kp Ax kpw))) fun hG => ?_
    have Bt:=fun o=>hG (w.heap.size) lto o (ne_addr (by omega))
    have As:=fun o=>hG (w.heap.size+1) lto o (ne_addr (by omega))
    have B6:=fun o=>hG (w5.heap.size) lto o (ne_addr (by omega))
    have Am:=fun o=>hG (w5.heap.size+1) lto o (ne_addr (by omega))
    have Aq:=fun o=>hG (w21.heap.size) lto o (ne_addr (by omega))
    have Ar:=fun o=>hG (w22.heap.size) lto o (ne_addr (by omega))
    have Ap:=fun o=>hG B lto (o+1) ne_off
    clear hG
    simp only[List.take_succ_cons,List.take_zero,List.drop_succ_cons,List.drop_zero]
    repeat (first|(refine wpTurn_pure rfl (fun K hK => ?_);go_simp;first|(refine hK _ _ ?_;clear hK K)|(apply Exists.intro;refine⟨fun _ _ => ?_,hK _ _ ?_⟩;(first|fail);clear hK K))|(refine wpTurn_eff rfl (fun K hK => ?_);go_simp;(first|(first|with_reducible refine⟨_,_,fun _=>tur_lt (Lt.turn Ao (Trn.kp Ax kpw)) (fun w h=>MA.out w h),?_⟩|with_reducible refine⟨_,_,fun _=>tur_lt (Lt.turn Ao (Trn.kp Ax kpw)) (fun w h=>MU.out w h),?_⟩));refine hK _ _ ?_;clear hK K))
    refine wpTurn_nil ?_
    intro w24 A4
    clear Ap Bt As B6 Am Aq Ar
    have Bx:=A4.size_le
    (try simp at Bx)
    have An:=tn5 A4 (w.heap.size)
    have Ah:=tn5 A4 (w.heap.size+1)
    have Al:=tn5 A4 (w5.heap.size)
    have Ac:=tn5 A4 (w5.heap.size+1)
    have By:=tn5 A4 (w21.heap.size)
    have Bz:=tn5 A4 (w22.heap.size)
    obtain⟨Dq,Dl,Dp,Du,Dy,Dv⟩:=pkx Ao Ax kpw A4
    (try clear C9 Ce)
    replace An:=cas5 An [.complex .f64 0 0,.int .i64 0,.complex .f64 0 0,.int .i64 0,.complex .f64 0 0,.int .i64 0,.complex .f64 0 0,.int .i64 0]
    replace Ah:=cas5 Ah [.complex .f64 0 0,.int .i64 0]
    replace Al:=cas5 Al [.complex .f64 (fl p0.a) (fl p0.b),.int .i64 p0.c,.complex .f64 (fl p1.a) (fl p1.b),.int .i64 p1.c,.complex .f64 (fl p2.a) (fl p2.b),.int .i64 p2.c,.complex .f64 (fl p3.a) (fl p3.b),.int .i64 p3.c]
    replace Ac:=cas5 Ac [.complex .f64 (fl F.a) (fl F.b),.int .i64 F.c]
    simp only[CAf,Nat.reduceAdd,and_true]at An Ah Al Ac
    (try clear Ak Aa Af A2 A8 A9)
    go_wp2_with fail
    go_roundw
    case rel=>exact⟨k+1,n0,n1,n2,n3,F,EN,by omega,by first|(simp;done)|(simp;omega),fn.out,fF,HT'.out,trw,by first|(simp;done)|(simp;omega),⟨by go_simp,by go_simp,by go_simp,by go_simp,by go_simp,by go_simp,by go_simp,by go_simp,fun o=>by go_simp⟩,⟨by go_simp,by go_simp,fun o=>by go_simp⟩,⟨by go_simp,by go_simp,by go_simp,by go_simp,by go_simp,by go_simp,by go_simp,by go_simp,fun o=>by go_simp⟩,⟨by go_simp,by go_simp,fun o=>by go_simp⟩⟩
    case measure=>simp[intOf];omega
   ·have hq1:(q==0)=false:=by simpa using hq
    have hT':(⟨⟨p0,p1,p2,p3⟩,f,q⟩:Thr)=T:=(run_done (.inl hq)).symm.trans HT
    subst hT'
    clear HT
    go_wp2_with fail
    go_region_held3 (fun w'=>w'.cell? ⟨w5.heap.size,0,none⟩=some (Value.complex .f64 (fl p0.a) (fl p0.b))∧w'.cell? ⟨w5.heap.size,1,none⟩=some (Value.int .i64 p0.c)∧w'.cell? ⟨w5.heap.size,2,none⟩=some (Value.complex .f64 (fl p1.a) (fl p1.b))∧w'.cell? ⟨w5.heap.size,3,none⟩=some (Value.int .i64 p1.c)∧w'.cell? ⟨w5.heap.size,4,none⟩=some (Value.complex .f64 (fl p2.a) (fl p2.b))∧w'.cell? ⟨w5.heap.size,5,none⟩=some (Value.int .i64 p2.c)∧w'.cell? ⟨w5.heap.size,6,none⟩=some (Value.complex .f64 (fl p3.a) (fl p3.b))∧w'.cell? ⟨w5.heap.size,7,none⟩=some (Value.int .i64 p3.c)∧w'.cell? ⟨w5.heap.size+1,0,none⟩=some (Value.complex .f64 (fl f.a) (fl f.b))∧w'.cell? ⟨w5.heap.size+1,1,none⟩=some (Value.int .i64 f.c)) (simp[*,go_sem,World.cell?_setCell_far]) (fail)
    repeat' (first|go_values|go_skip|go_guarded|go_step|go_upon|(simp only[];go_simp))
    refine bodyPost_ret (by simp[results,Tryz.results70,go_sem, *];first|done|rfl) rfl ?_
    exact⟨by simp only[Mat.cells],trw⟩
  ·have hc1:¬((k:Int)+1≤len):=by omega
   have hT':(⟨⟨p0,p1,p2,p3⟩,f,q⟩:Thr)=T:=(run_done (.inr (List.drop_eq_nil_of_le (by omega)))).symm.trans HT
   subst hT'
   clear HT
   go_wp2_with fail
   go_region_held3 (fun w'=>w'.cell? ⟨w5.heap.size,0,none⟩=some (Value.complex .f64 (fl p0.a) (fl p0.b))∧w'.cell? ⟨w5.heap.size,1,none⟩=some (Value.int .i64 p0.c)∧w'.cell? ⟨w5.heap.size,2,none⟩=some (Value.complex .f64 (fl p1.a) (fl p1.b))∧w'.cell? ⟨w5.heap.size,3,none⟩=some (Value.int .i64 p1.c)∧w'.cell? ⟨w5.heap.size,4,none⟩=some (Value.complex .f64 (fl p2.a) (fl p2.b))∧w'.cell? ⟨w5.heap.size,5,none⟩=some (Value.int .i64 p2.c)∧w'.cell? ⟨w5.heap.size,6,none⟩=some (Value.complex .f64 (fl p3.a) (fl p3.b))∧w'.cell? ⟨w5.heap.size,7,none⟩=some (Value.int .i64 p3.c)∧w'.cell? ⟨w5.heap.size+1,0,none⟩=some (Value.complex .f64 (fl f.a) (fl f.b))∧w'.cell? ⟨w5.heap.size+1,1,none⟩=some (Value.int .i64 f.c)) (simp[*,go_sem,World.cell?_setCell_far]) (fail)
   repeat' (first|go_values|go_skip|go_guarded|go_step|go_upon|(simp only[];go_simp))
   refine bodyPost_ret (by simp[results,Tryz.results70,go_sem, *];first|done|rfl) rfl ?_
   exact⟨by simp only[Mat.cells],trw⟩
end Go.Proofs.YtllpncmpofhgmaaGreat
