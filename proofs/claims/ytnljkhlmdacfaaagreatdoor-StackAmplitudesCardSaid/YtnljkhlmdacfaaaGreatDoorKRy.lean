/- Joined: RAllYes RAmpYes. -/
import Derived.Test.YtnljkhlmdacfaaaGreatDoorRAll
import Derived.Test.YtnljkhlmdacfaaaGreatDoorRFactor1
import Derived.Test.YtnljkhlmdacfaaaGreatDoorKYes
import Derived.Deep.RegionHeld3
namespace Go.Proofs.YtnljkhlmdacfaaaGreatDoor
open Go Go.Sort Go.RowKit
theorem step_bad2 {A:Ask}{s:Thr}{b:Box} (h:s.q≠0):(stepR A true s b).q=s.q:=by
 have a1:=adm_bad (A:=A) (b:=b) h
 have a2:(facR (admR s.q A b).q A b 2).q=s.q:=by rw[a1];exact fac_bad0 h
 have a3:(facR (facR (admR s.q A b).q A b 2).q A b 1).q=s.q:=by rw[a2];exact fac_bad0 h
 unfold stepR
 simp only[if_true,a3,after_err _ h,res_bad_q,mat_bad h,mul_bad h]
def AllRet2 (T:Thr) (B:Nat) (w:World) (E:Ending) (w':World):Prop:=∃(p:Mat) (f:Res),E = .returned (.tuple #[.agg p.ints,.agg #[.int .i64 f.a,.int .i64 f.b,.int .i64 f.c]])∧p.fine∧Fine f∧(T.q=0→p=T.p∧f=T.f)∧Trn B T.q w w'
theorem allRet2_bad {T:Thr}{B:Nat}{w w':World} (h:T.q≠0) (t:Trn B T.q w w'):AllRet2 T B w (.returned (.tuple #[.agg #[.int .i64 0,.int .i64 0,.int .i64 0,.int .i64 0,.int .i64 0,.int .i64 0,.int .i64 0,.int .i64 0,.int .i64 0,.int .i64 0,.int .i64 0,.int .i64 0],.agg #[.int .i64 0,.int .i64 0,.int .i64 0]])) w':=by
 obtain⟨z1,z2,z3⟩:noneR.a=0∧noneR.b=0∧noneR.c=0:=by unfold noneR;exact⟨(quad_good _ _ _).1,(quad_good _ _ _).2.1,(quad_good _ _ _).2.2.1⟩
 refine⟨⟨noneR,noneR,noneR,noneR⟩,noneR,?_,⟨fine_noneR,fine_noneR,fine_noneR,fine_noneR⟩,fine_noneR,fun h0=>absurd h0 h,t⟩
 simp only[Mat.ints,z1,z2,z3]
theorem allRet2_ok {T:Thr}{B:Nat}{w w':World} (hf:T.p.fine) (hg:Fine T.f) (t:Trn B T.q w w'):AllRet2 T B w (.returned (.tuple #[.agg T.p.ints,.agg #[.int .i64 T.f.a,.int .i64 T.f.b,.int .i64 T.f.c]])) w':=⟨T.p,T.f,rfl,hf,hg,fun _=>⟨rfl,rfl⟩,t⟩
set_option maxRecDepth 100000 in
set_option maxHeartbeats 8000000 in
theorem r_all2 (B:Nat) (e:Int) (A:Ask) (hA:AskOk A) (T:Thr) (hT:HidT A true ⟨⟨oneR,noneR,noneR,oneR⟩,oneR,e⟩ T 0) (w:World) (Aj:Rt B e A w) :
  Calls Tryz.prog 102 #[.pointer (some ⟨B,0,none⟩),A.val,.bool true] w fun E w'=>AllRet2 T B w E w':=by
 have hlen:=hA.len
 obtain⟨z1,z2,z3⟩:noneR.a=0∧noneR.b=0∧noneR.c=0:=by unfold noneR;exact⟨(quad_good _ _ _).1,(quad_good _ _ _).2.1,(quad_good _ _ _).2.2.1⟩
 unfold Ask.val
 have Ao:=Aj.st
 have Gl:=tr_refl Ao
 have H7:=Ao.cell
 have H9:=Ao.free
 have Hh:=Ao.lt
 have Hw:=own5 Hh
 go_enter Tryz.func102,Tryz.ntmps102
 go_wp2_with fail
 refine(r_one _).mono ?_
 rintro e w1 ⟨rfl,Aw⟩
 have Bf:=Aw.size
 (try simp at Bf)
 have Df:=bl5 Aw (w.heap.size)
 have Cg:=bl5 Aw (w.heap.size+1)
 have Fq:=bl5 Aw (w.heap.size+1+1)
 obtain⟨D2,H2,H5,Hb,G6,De⟩:=rkb Aj Gl kpw Aw
 (try clear H7 H9)
 go_wp2_with fail
 refine(r_one _).mono ?_
 rintro e w2 ⟨rfl,Bb⟩
 have Cf:=Bb.size
 (try simp at Cf)
 have Dn:=bl5 Bb (w.heap.size)
 have Cx:=bl5 Bb (w.heap.size+1)
 have G3:=bl5 Bb (w.heap.size+1+1)
 obtain⟨D3,H3,H6,Hc,G7,Dg⟩:=rkb Aj D2 kpw Bb
 (try clear De G6)
 go_wp2_with fail
 refine(r_one _).mono ?_
 rintro e w3 ⟨rfl,Bc⟩
 have Fp:=Bc.size
 (try simp at Fp)
 have Hf:=bl5 Bc (w.heap.size)
 have G4:=bl5 Bc (w.heap.size+1)
 have G5:=bl5 Bc (w.heap.size+1+1)
 obtain⟨Hp,Hn,Ho,Hs,Hv,Hu⟩:=rkb Aj D3 kpw Bc
 (try clear Dg G7)
 go_wp2_with fail
 go_loopw [10] (fun i wr=>∃(k:Nat) (p0 p1 p2 p3 f:Res) (q:Int),k≤A.ls.length∧i = .int .i64 (k+1)∧(⟨p0,p1,p2,p3⟩:Mat).fine∧Fine f∧HidT A true ⟨⟨p0,p1,p2,p3⟩,f,q⟩ T k∧Trn B q w wr∧w3.heap.size+1<wr.heap.size∧wr.cell? ⟨w.heap.size,0,none⟩=some (Value.int .i64 A.ix)∧wr.cell? ⟨w.heap.size,1,none⟩=some (Value.int .i64 A.sl)∧wr.cell? ⟨w.heap.size,2,none⟩=some (Value.int .i64 A.sh)∧wr.cell? ⟨w.heap.size,3,none⟩=some (Value.int .i64 A.po)∧wr.cell? ⟨w.heap.size,4,none⟩=some (Value.int .i64 A.wl)∧wr.cell? ⟨w.heap.size,5,none⟩=some (Value.int .i64 A.wh)∧wr.cell? ⟨w.heap.size,6,none⟩=some (Value.slice A.pa A.ls.length A.cap)∧wr.cell? ⟨w.heap.size,7,none⟩=some (Value.int .i64 A.oi)∧wr.cell? ⟨w.heap.size,8,none⟩=some (Value.int .i64 A.ol)∧(∀o,wr.frozen? ⟨w.heap.size,o,none⟩=false)∧wr.cell? ⟨w.heap.size+1,0,none⟩=some (Value.int .i64 0)∧wr.cell? ⟨w.heap.size+1,1,none⟩=some (Value.int .i64 0)∧wr.cell? ⟨w.heap.size+1,2,none⟩=some (Value.int .i64 0)∧wr.cell? ⟨w.heap.size+1,3,none⟩=some (Value.int .i64 0)∧wr.cell? ⟨w.heap.size+1,4,none⟩=some (Value.int .i64 0)∧wr.cell? ⟨w.heap.size+1,5,none⟩=some (Value.int .i64 0)∧wr.cell? ⟨w.heap.size+1,6,none⟩=some (Value.int .i64 0)∧wr.cell? ⟨w.heap.size+1,7,none⟩=some (Value.int .i64 0)∧wr.cell? ⟨w.heap.size+1,8,none⟩=some (Value.int .i64 0)∧wr.cell? ⟨w.heap.size+1,9,none⟩=some (Value.int .i64 0)∧wr.cell? ⟨w.heap.size+1,10,none⟩=some (Value.int .i64 0)∧wr.cell? ⟨w.heap.size+1,11,none⟩=some (Value.int .i64 0)∧(∀o,wr.frozen? ⟨w.heap.size+1,o,none⟩=false)∧wr.cell? ⟨w.heap.size+1+1,0,none⟩=some (Value.int .i64 0)∧wr.cell? ⟨w.heap.size+1+1,1,none⟩=some (Value.int .i64 0)∧wr.cell? ⟨w.heap.size+1+1,2,none⟩=some (Value.int .i64 0)∧(∀o,wr.frozen? ⟨w.heap.size+1+1,o,none⟩=false)∧wr.cell? ⟨w3.heap.size,0,none⟩=some (Value.int .i64 p0.a)∧wr.cell? ⟨w3.heap.size,1,none⟩=some (Value.int .i64 p0.b)∧wr.cell? ⟨w3.heap.size,2,none⟩=some (Value.int .i64 p0.c)∧wr.cell? ⟨w3.heap.size,3,none⟩=some (Value.int .i64 p1.a)∧wr.cell? ⟨w3.heap.size,4,none⟩=some (Value.int .i64 p1.b)∧wr.cell? ⟨w3.heap.size,5,none⟩=some (Value.int .i64 p1.c)∧wr.cell? ⟨w3.heap.size,6,none⟩=some (Value.int .i64 p2.a)∧wr.cell? ⟨w3.heap.size,7,none⟩=some (Value.int .i64 p2.b)∧wr.cell? ⟨w3.heap.size,8,none⟩=some (Value.int .i64 p2.c)∧wr.cell? ⟨w3.heap.size,9,none⟩=some (Value.int .i64 p3.a)∧wr.cell? ⟨w3.heap.size,10,none⟩=some (Value.int .i64 p3.b)∧wr.cell? ⟨w3.heap.size,11,none⟩=some (Value.int .i64 p3.c)∧(∀o,wr.frozen? ⟨w3.heap.size,o,none⟩=false)∧wr.cell? ⟨w3.heap.size+1,0,none⟩=some (Value.int .i64 f.a)∧wr.cell? ⟨w3.heap.size+1,1,none⟩=some (Value.int .i64 f.b)∧wr.cell? ⟨w3.heap.size+1,2,none⟩=some (Value.int .i64 f.c)∧(∀o,wr.frozen? ⟨w3.heap.size+1,o,none⟩=false)) (fun i _=>A.ls.length+2-(intOf i).toNat)
 case atStart=>exact⟨0,oneR,noneR,noneR,oneR,oneR,e,by omega,rfl,ones,fine_oneR,hT,trw,by first|omega|(simp;done)|(simp;omega),by go_simp,by go_simp,by go_simp,by go_simp,by go_simp,by go_simp,by go_simp,by go_simp,by go_simp,fun o=>by go_simp,by go_simp,by go_simp,by go_simp,by go_simp,by go_simp,by go_simp,by go_simp,by go_simp,by go_simp,by go_simp,by go_simp,by go_simp,fun o=>by go_simp,by go_simp,by go_simp,by go_simp,fun o=>by go_simp,by go_simp,by go_simp,by go_simp,by go_simp,by go_simp,by go_simp,by go_simp,by go_simp,by go_simp,by go_simp,by go_simp,by go_simp,fun o=>by go_simp,by go_simp,by go_simp,by go_simp,fun o=>by go_simp⟩
 case round =>
  obtain⟨k,p0,p1,p2,p3,f,q,hk,rfl,fp,ff,HT,D4,hsz,Gs,Gt,Gu,Gv,Gw,Gx,Gy,Gz,H0,H1,Ee,Ei,Ek,Em,En,Eo,Ep,Eq,Er,Es,Dp,Dq,Et,Ef,Ej,El,Eu,Ga,Gb,Gc,Gd,Ge,Gf,Gg,Gh,Gi,Gj,Eg,Eh,Gk,Do,Dr,Ds,Dt⟩:=hrel
  clear hT z1 z2 z3
  have hd0:¬w.heap.size=w3.heap.size:=by omega
  have he0:¬w3.heap.size=w.heap.size:=by omega
  have hd1:¬w.heap.size=w3.heap.size+1:=by omega
  have he1:¬w3.heap.size+1=w.heap.size:=by omega
  have hd2:¬w.heap.size+1=w3.heap.size:=by omega
  have he2:¬w3.heap.size=w.heap.size+1:=by omega
  have hd3:¬w.heap.size+1=w3.heap.size+1:=by omega
  have he3:¬w3.heap.size+1=w.heap.size+1:=by omega
  have hd4:¬w.heap.size+1+1=w3.heap.size:=by omega
  have he4:¬w3.heap.size=w.heap.size+1+1:=by omega
  have hd5:¬w.heap.size+1+1=w3.heap.size+1:=by omega
  have he5:¬w3.heap.size+1=w.heap.size+1+1:=by omega
  have Ht:=D4.le
  have H4:=Rt.turn Aj D4
  have D7:=H4.st
  have H8:=D7.cell
  have Ha:=D7.free
  have Hi:=D7.lt
  have Hg:=own5 Hi
  generalize hln:A.ls.length=len at *
  by_cases hlt:k<len
  ·have hc1:((k:Int)+1≤len):=by omega
   obtain⟨b,hb⟩:∃b,A.ls[k]?=some b:=⟨_,List.getElem?_eq_getElem (by omega)⟩
   have hM:RMed A ((k:Int)+1) b:=rmed_layer A hA k b hb
   obtain⟨Y,hY⟩:=is_ex (admR q A b)
   have fY:Fine Y:=hY.fine (fine_adm _ _ _)
   obtain⟨G,hG⟩:=is_ex (facR Y.q A b 2)
   have fG:Fine G:=hG.fine (fine_fac _ _ _ _)
   obtain⟨X,hX⟩:=is_ex (facR G.q A b 1)
   have fX:Fine X:=hX.fine (fine_fac _ _ _ _)
   obtain⟨F,hF⟩:=is_ex (after X.q (ti f X))
   have fF:Fine F:=hF.fine (fine_after _ (fine_ti _ _))
   have FX:=(r_fac_once B G.q A ((k:Int)+1) b hA hM).to hX
   have TF:=Lib.hid ((r_times B X.q f X ff fX).to hF)
   have AD:=(r_adm B q A ((k:Int)+1) b hA hM).to hY
   have FA:=(r_factor2 B Y.q A ((k:Int)+1) b hA hM).to hG
   have MA:=fun w S=>r_matrix B F.q Y G fY fG w S
   have fm:=mat_fine F.q Y G
   have ST:=step_yes (s:=⟨⟨p0,p1,p2,p3⟩,f,q⟩) hY hG hX hF
   generalize hm:matR F.q Y G=M at *
   obtain⟨⟨m0,m1,m2,m3⟩,EM⟩:=M
   have MU:=fun w L=>r_product B EM ⟨p0,p1,p2,p3⟩ ⟨m0,m1,m2,m3⟩ fp fm A w L
   have fn:=mul_fine EM ⟨p0,p1,p2,p3⟩ ⟨m0,m1,m2,m3⟩
   simp only at ST
   generalize hn:mulR EM ⟨p0,p1,p2,p3⟩ ⟨m0,m1,m2,m3⟩=N at *
   obtain⟨⟨n0,n1,n2,n3⟩,EN⟩:=N
   simp only[Mat.ints]at MA MU ST fn
   have hbad:q≠0→EN=q:=fun h=>by have:=step_bad2 (A:=A) (s:=⟨⟨p0,p1,p2,p3⟩,f,q⟩) (b:=b) h;rw[ST]at this;exact this
   unfold RLG Ask.val at AD FA FX
   rw[hln]at AD FA FX
   have FX:=Lib.hid FX
   have AD:=Lib.hid AD
   have FA:=Lib.hid FA
   have MA:=Lib.hid MA
   have MU:=Lib.hid MU
   have HT2:=Lib.hid (show EN=0→HidT A true ⟨⟨n0,n1,n2,n3⟩,F,EN⟩ T (k+1)from fun hE=>by
    have hq:q=0:=Classical.byContradiction fun h=>by have:=hbad h;omega
    have h:=HT
    unfold HidT at h ⊢
    rw[run_step hq hb,ST]at h
    exact h)
   have RET:=Lib.hid (fun(hE:¬EN=0) w' (t:Trn B EN w w')=>allRet2_bad (T:=T) (B:=B) (w:=w) (w':=w') (by
    have hTq:T.q=EN:=by
     by_cases hq:q=0
     ·have h:=HT;unfold HidT at h;rw[run_step hq hb,ST,run_done (.inl hE)]at h;rw[← h]
     ·have h:=HT;unfold HidT at h;rw[run_done (.inl hq)]at h;rw[← h];exact(hbad hq).symm
    rw[hTq];exact hE) (by
    have hTq:T.q=EN:=by
     by_cases hq:q=0
     ·have h:=HT;unfold HidT at h;rw[run_step hq hb,ST,run_done (.inl hE)]at h;rw[← h]
     ·have h:=HT;unfold HidT at h;rw[run_done (.inl hq)]at h;rw[← h];exact(hbad hq).symm
    rw[hTq];exact t))
   have fn:=Lib.hid fn
   clear HT ST hm hn hM fm hb hbad hX hF hY hG
   go_wp2_with fail
   refine(AD.out _ (Rt.turn Aj (Trn.kp D4 kpw))).mono ?_
   rintro e w21 ⟨rfl,A5⟩
   have Bj:=A5.size_le
   (try simp at Bj)
   have Bw:=tn5 A5 (w.heap.size)
   have Ay:=tn5 A5 (w.heap.size+1)
   have E8:=tn5 A5 (w.heap.size+1+1)
   have Fr:=tn5 A5 (w3.heap.size)
   have Dh:=tn5 A5 (w3.heap.size+1)
   obtain⟨Bu,Ev,F2,Fa,G8,Ch⟩:=rkx Aj D4 kpw A5
   (try clear H8 Ha Hg)
   go_wp2_with fail
   refine(FA.out _ (Rt.turn Aj (Trn.kp Bu kpw))).mono ?_
   rintro e w22 ⟨rfl,Ac⟩
   have Ar:=Ac.size_le
   (try simp at Ar)
   have Ba:=tn5 Ac (w.heap.size)
   have An:=tn5 Ac (w.heap.size+1)
   have C4:=tn5 Ac (w.heap.size+1+1)
   have Cn:=tn5 Ac (w3.heap.size)
   have Bo:=tn5 Ac (w3.heap.size+1)
   have Am:=tn5 Ac (w21.heap.size)
   obtain⟨Av,Ew,F3,Fb,D5,Ck⟩:=rkx Aj Bu kpw Ac
   (try clear Ch)
   repeat (first|(with_reducible refine wp_markr 8 ?_)|go_values|go_skip|go_guarded|go_step|go_upon|(simp only[];go_simp))
   refine wp_named (fun w23 A6 => ?_)
   have As:=congrArg (fun w=>w.heap.size) A6
   (try simp at As)
   replace As:=Nat.le_of_eq As.symm
   obtain⟨Ak,Ex,F4,Fc,Cy,Co⟩:=rkn Aj Av A6 kpw
   have Bx:=cas A6 (w.heap.size) [.int .i64 A.ix,.int .i64 A.sl,.int .i64 A.sh,.int .i64 A.po,.int .i64 A.wl,.int .i64 A.wh,.slice A.pa len A.cap,.int .i64 A.oi,.int .i64 A.ol]
   have B0:=cas A6 (w.heap.size+1) [.int .i64 0,.int .i64 0,.int .i64 0,.int .i64 0,.int .i64 0,.int .i64 0,.int .i64 0,.int .i64 0,.int .i64 0,.int .i64 0,.int .i64 0,.int .i64 0]
   have C6:=cas A6 (w.heap.size+1+1) [.int .i64 0,.int .i64 0,.int .i64 0]
   have Cp:=cas A6 (w3.heap.size) [.int .i64 p0.a,.int .i64 p0.b,.int .i64 p0.c,.int .i64 p1.a,.int .i64 p1.b,.int .i64 p1.c,.int .i64 p2.a,.int .i64 p2.b,.int .i64 p2.c,.int .i64 p3.a,.int .i64 p3.b,.int .i64 p3.c]
   have Bp:=cas A6 (w3.heap.size+1) [.int .i64 f.a,.int .i64 f.b,.int .i64 f.c]
   have Az:=cas A6 (w21.heap.size) [.int .i64 Y.a,.int .i64 Y.b,.int .i64 Y.c]
   have C5:=cas A6 (w22.heap.size) [.int .i64 G.a,.int .i64 G.b,.int .i64 G.c]
   simp only[CAf,Nat.reduceAdd,and_true]at Bx B0 C6 Cp Bp Az C5
   clear A6
   (try clear Ba An C4 Cn Bo Am Ck)
   go_wp2_with fail
   refine turn (fun i=>i==5||i==6) 7 (by kernel_rfl) (by kernel_rfl) (St.cell (St.turn Ao (Trn.kp Ak kpw))) fun hG => ?_
   have B8:=fun o=>hG (w.heap.size) lto o (ne_addr (by omega))
   have Aa:=fun o=>hG (w.heap.size+1) lto o (ne_addr (by omega))
   have Bi:=fun o=>hG (w.heap.size+1+1) lto o (ne_addr (by omega))
   have Ce:=fun o=>hG (w3.heap.size) lto o (ne_addr (by omega))
   have B9:=fun o=>hG (w3.heap.size+1) lto o (ne_addr (by omega))
   have Ai:=fun o=>hG (w21.heap.size) lto o (ne_addr (by omega))
   have Bh:=fun o=>hG (w22.heap.size) lto o (ne_addr (by omega))
   have A9:=fun o=>hG B lto (o+1) ne_off
   clear hG
   simp only[List.take_succ_cons,List.take_zero,List.drop_succ_cons,List.drop_zero]
   repeat (first|(refine wpTurn_pure rfl (fun K hK => ?_);go_simp;first|(refine hK _ _ ?_;clear hK K)|(apply Exists.intro;refine⟨fun _ _ => ?_,hK _ _ ?_⟩;(first|fail);clear hK K))|(refine wpTurn_eff rfl (fun K hK => ?_);go_simp;(first|(first|with_reducible refine⟨_,_,fun _=>tur_rt (Rt.turn Aj (Trn.kp Ak kpw)) (fun w h=>FX.out w h),?_⟩|with_reducible refine⟨_,_,fun _=>tur_st (St.turn Ao (Trn.kp Ak kpw)) (fun w h=>TF.out w h),?_⟩));refine hK _ _ ?_;clear hK K))
   refine wpTurn_nil ?_
   intro w24 A0
   clear A9 B8 Aa Bi Ce B9 Ai Bh
   have Bk:=A0.size_le
   (try simp at Bk)
   have By:=tn5 A0 (w.heap.size)
   have B4:=tn5 A0 (w.heap.size+1)
   have C8:=tn5 A0 (w.heap.size+1+1)
   have Cr:=tn5 A0 (w3.heap.size)
   have Bq:=tn5 A0 (w3.heap.size+1)
   have B3:=tn5 A0 (w21.heap.size)
   have C7:=tn5 A0 (w22.heap.size)
   obtain⟨Bv,Ey,F5,Fd,Cz,Cq⟩:=rkx Aj Ak kpw A0
   (try clear Co Cy)
   repeat (first|(with_reducible refine wp_markr 9 ?_)|go_values|go_skip|go_guarded|go_step|go_upon|(simp only[];go_simp))
   refine wp_named (fun w25 A7 => ?_)
   have At:=congrArg (fun w=>w.heap.size) A7
   (try simp at At)
   replace At:=Nat.le_of_eq At.symm
   obtain⟨Ap,Ez,F6,Fe,D0,Cs⟩:=rkn Aj Bv A7 kpw
   have Bz:=cas A7 (w.heap.size) [.int .i64 A.ix,.int .i64 A.sl,.int .i64 A.sh,.int .i64 A.po,.int .i64 A.wl,.int .i64 A.wh,.slice A.pa len A.cap,.int .i64 A.oi,.int .i64 A.ol]
   have B5:=cas A7 (w.heap.size+1) [.int .i64 0,.int .i64 0,.int .i64 0,.int .i64 0,.int .i64 0,.int .i64 0,.int .i64 0,.int .i64 0,.int .i64 0,.int .i64 0,.int .i64 0,.int .i64 0]
   have Cb:=cas A7 (w.heap.size+1+1) [.int .i64 0,.int .i64 0,.int .i64 0]
   have Ct:=cas A7 (w3.heap.size) [.int .i64 p0.a,.int .i64 p0.b,.int .i64 p0.c,.int .i64 p1.a,.int .i64 p1.b,.int .i64 p1.c,.int .i64 p2.a,.int .i64 p2.b,.int .i64 p2.c,.int .i64 p3.a,.int .i64 p3.b,.int .i64 p3.c]
   have Br:=cas A7 (w3.heap.size+1) [.int .i64 F.a,.int .i64 F.b,.int .i64 F.c]
   have C9:=cas A7 (w21.heap.size) [.int .i64 Y.a,.int .i64 Y.b,.int .i64 Y.c]
   have Ca:=cas A7 (w22.heap.size) [.int .i64 G.a,.int .i64 G.b,.int .i64 G.c]
   simp only[CAf,Nat.reduceAdd,and_true]at Bz B5 Cb Ct Br C9 Ca
   clear A7
   (try clear By B4 C8 Cr Bq B3 C7 Cq Cz)
   go_wp2_with fail
   refine turn (fun i=>i==5||i==6) 7 (by kernel_rfl) (by kernel_rfl) (St.cell (St.turn Ao (Trn.kp Ap kpw))) fun hG => ?_
   have B8:=fun o=>hG (w.heap.size) lto o (ne_addr (by omega))
   have Aa:=fun o=>hG (w.heap.size+1) lto o (ne_addr (by omega))
   have Bi:=fun o=>hG (w.heap.size+1+1) lto o (ne_addr (by omega))
   have Ce:=fun o=>hG (w3.heap.size) lto o (ne_addr (by omega))
   have B9:=fun o=>hG (w3.heap.size+1) lto o (ne_addr (by omega))
   have Ai:=fun o=>hG (w21.heap.size) lto o (ne_addr (by omega))
   have Bh:=fun o=>hG (w22.heap.size) lto o (ne_addr (by omega))
   have A9:=fun o=>hG B lto (o+1) ne_off
   clear hG
   simp only[List.take_succ_cons,List.take_zero,List.drop_succ_cons,List.drop_zero]
   repeat (first|(refine wpTurn_pure rfl (fun K hK => ?_);go_simp;first|(refine hK _ _ ?_;clear hK K)|(apply Exists.intro;refine⟨fun _ _ => ?_,hK _ _ ?_⟩;(first|fail);clear hK K))|(refine wpTurn_eff rfl (fun K hK => ?_);go_simp;(first|(first|with_reducible refine⟨_,_,fun _=>tur_st (St.turn Ao (Trn.kp Ap kpw)) (fun w h=>MA.out w h),?_⟩|with_reducible refine⟨_,_,fun _=>tur_rt (Rt.turn Aj (Trn.kp Ap kpw)) (fun w h=>MU.out w h),?_⟩));refine hK _ _ ?_;clear hK K))
   refine wpTurn_nil ?_
   intro w26 A3
   clear A9 B8 Aa Bi Ce B9 Ai Bh
   have Bl:=A3.size_le
   (try simp at Bl)
   have C0:=tn5 A3 (w.heap.size)
   have B6:=tn5 A3 (w.heap.size+1)
   have Cc:=tn5 A3 (w.heap.size+1+1)
   have Cv:=tn5 A3 (w3.heap.size)
   have Bs:=tn5 A3 (w3.heap.size+1)
   have Eb:=tn5 A3 (w21.heap.size)
   have Ec:=tn5 A3 (w22.heap.size)
   obtain⟨Aq,F0,F7,Ff,D6,Cu⟩:=rkx Aj Ap kpw A3
   (try clear Cs D0)
   repeat (first|(with_reducible refine wp_markr 10 ?_)|go_values|go_skip|go_guarded|go_step|go_upon|(simp only[];go_simp))
   refine wp_named (fun w27 Ab => ?_)
   have Au:=congrArg (fun w=>w.heap.size) Ab
   (try simp at Au)
   replace Au:=Nat.le_of_eq Au.symm
   obtain⟨F9,F1,F8,Fg,G9,G0⟩:=rkn Aj Aq Ab kpw
   have C3:=cas Ab (w.heap.size) [.int .i64 A.ix,.int .i64 A.sl,.int .i64 A.sh,.int .i64 A.po,.int .i64 A.wl,.int .i64 A.wh,.slice A.pa len A.cap,.int .i64 A.oi,.int .i64 A.ol]
   have B7:=cas Ab (w.heap.size+1) [.int .i64 0,.int .i64 0,.int .i64 0,.int .i64 0,.int .i64 0,.int .i64 0,.int .i64 0,.int .i64 0,.int .i64 0,.int .i64 0,.int .i64 0,.int .i64 0]
   have Cd:=cas Ab (w.heap.size+1+1) [.int .i64 0,.int .i64 0,.int .i64 0]
   have Cw:=cas Ab (w3.heap.size) [.int .i64 n0.a,.int .i64 n0.b,.int .i64 n0.c,.int .i64 n1.a,.int .i64 n1.b,.int .i64 n1.c,.int .i64 n2.a,.int .i64 n2.b,.int .i64 n2.c,.int .i64 n3.a,.int .i64 n3.b,.int .i64 n3.c]
   have Bt:=cas Ab (w3.heap.size+1) [.int .i64 F.a,.int .i64 F.b,.int .i64 F.c]
   simp only[CAf,Nat.reduceAdd,and_true]at C3 B7 Cd Cw Bt
   clear Ab
   (try clear C0 B6 Cc Cv Bs Cu D6)
   skip
   by_cases hE:EN=0
   ·have hE1:(EN != 0)=false:=by simpa using hE
    have HT':=Lib.hid (HT2.out hE)
    go_wp2_with fail
    go_roundw
    case rel=>exact⟨k+1,n0,n1,n2,n3,F,EN,by omega,by first|(simp;done)|(simp;omega),fn.out,fF,HT'.out,trw,by first|assumption|omega|(simp;done)|(simp;omega),by go_simp,by go_simp,by go_simp,by go_simp,by go_simp,by go_simp,by go_simp,by go_simp,by go_simp,fun o=>by go_simp,by go_simp,by go_simp,by go_simp,by go_simp,by go_simp,by go_simp,by go_simp,by go_simp,by go_simp,by go_simp,by go_simp,by go_simp,fun o=>by go_simp,by go_simp,by go_simp,by go_simp,fun o=>by go_simp,by go_simp,by go_simp,by go_simp,by go_simp,by go_simp,by go_simp,by go_simp,by go_simp,by go_simp,by go_simp,by go_simp,by go_simp,fun o=>by go_simp,by go_simp,by go_simp,by go_simp,fun o=>by go_simp⟩
    case measure=>simp[intOf];omega
   ·have hE1:(EN != 0)=true:=by simpa using hE
    have RET:=Lib.hid (RET.out hE)
    repeat' (first|go_values|go_skip|go_guarded|go_step|go_upon|(simp only[];go_simp))
    refine bodyPost_ret (by simp[results,Tryz.results102,go_sem, *];first|done|rfl) rfl ?_
    exact RET.out _ trw
  ·have hc1:¬((k:Int)+1≤len):=by omega
   have hT':(⟨⟨p0,p1,p2,p3⟩,f,q⟩:Thr)=T:=(run_done (.inr (List.drop_eq_nil_of_le (by omega)))).symm.trans HT
   have RET:=fun w' (t:Trn B q w w')=>allRet2_ok (T:=⟨⟨p0,p1,p2,p3⟩,f,q⟩) (B:=B) (w:=w) (w':=w') fp ff t
   simp only[Mat.ints]at RET
   have RET:=Lib.hid RET
   subst hT'
   clear HT
   go_wp2_with fail
   go_region_held3 (fun w'=>w'.cell? ⟨w3.heap.size,0,none⟩=some (Value.int .i64 p0.a)∧w'.cell? ⟨w3.heap.size,1,none⟩=some (Value.int .i64 p0.b)∧w'.cell? ⟨w3.heap.size,2,none⟩=some (Value.int .i64 p0.c)∧w'.cell? ⟨w3.heap.size,3,none⟩=some (Value.int .i64 p1.a)∧w'.cell? ⟨w3.heap.size,4,none⟩=some (Value.int .i64 p1.b)∧w'.cell? ⟨w3.heap.size,5,none⟩=some (Value.int .i64 p1.c)∧w'.cell? ⟨w3.heap.size,6,none⟩=some (Value.int .i64 p2.a)∧w'.cell? ⟨w3.heap.size,7,none⟩=some (Value.int .i64 p2.b)∧w'.cell? ⟨w3.heap.size,8,none⟩=some (Value.int .i64 p2.c)∧w'.cell? ⟨w3.heap.size,9,none⟩=some (Value.int .i64 p3.a)∧w'.cell? ⟨w3.heap.size,10,none⟩=some (Value.int .i64 p3.b)∧w'.cell? ⟨w3.heap.size,11,none⟩=some (Value.int .i64 p3.c)∧w'.cell? ⟨w3.heap.size+1,0,none⟩=some (Value.int .i64 f.a)∧w'.cell? ⟨w3.heap.size+1,1,none⟩=some (Value.int .i64 f.b)∧w'.cell? ⟨w3.heap.size+1,2,none⟩=some (Value.int .i64 f.c)) (simp[*,go_sem]) (fail)
   repeat' (first|go_values|go_skip|go_guarded|go_step|go_upon|(simp only[];go_simp))
   refine bodyPost_ret (by simp[results,Tryz.results102,go_sem, *];first|done|rfl) rfl ?_
   exact RET.out _ trw
end Go.Proofs.YtnljkhlmdacfaaaGreatDoor
namespace Go.Proofs.YtnljkhlmdacfaaaGreatDoor
open Go Go.Sort Go.RowKit
theorem amp_isp2 {A:Ask}{y l b1 b c1 c a d z x f:Res}{t:Thr}{p:Mat} (hp:t.q=0→p=t.p∧f=t.f) (hy:Is y (admR 0 A (A.med 0))) (ht:t=thrR y.q A true) (hl:Is l (admR t.q A (A.med (A.ls.length+1)))) (h1:Is b1 (after l.q (ti p.m1 l)))
  (h2:Is b (after b1.q (pl p.m0 b1))) (h3:Is c1 (after b.q (ti p.m3 l))) (h4:Is c (after c1.q (pl p.m2 c1))) (h5:Is a (after c.q (ti y b))) (h6:Is d (after a.q (pl a c))) (h7:Is z (after d.q (pl y y))) (h8:Is x (after z.q (ti z f))):Is (ampR A true) (after x.q (qt x d)):=by
 rw[← ampE_zero]
 by_cases hq:t.q=0
 ·obtain⟨e,ef⟩:=hp hq
  subst e
  subst ef
  exact amp_is2 hy ht hl h1 h2 h3 h4 h5 h6 h7 h8
 ·have k:l.q≠0:=by rw[hl.out,adm_bad hq];exact hq
  have e1:b1 = .bad l.q:=by rw[h1.out,after_err _ k]
  have e2:b = .bad l.q:=by rw[h2.out,e1,res_bad_q,after_err _ k]
  have e3:c1 = .bad l.q:=by rw[h3.out,e2,res_bad_q,after_err _ k]
  have e4:c = .bad l.q:=by rw[h4.out,e3,res_bad_q,after_err _ k]
  have e5:a = .bad l.q:=by rw[h5.out,e4,res_bad_q,after_err _ k]
  have e6:d = .bad l.q:=by rw[h6.out,e5,res_bad_q,after_err _ k]
  have e7:z = .bad l.q:=by rw[h7.out,e6,res_bad_q,after_err _ k]
  have e8:x = .bad l.q:=by rw[h8.out,e7,res_bad_q,after_err _ k]
  rw[e8,res_bad_q,after_err _ k]
  obtain⟨B1,hB1⟩:=is_ex (after l.q (ti t.p.m1 l))
  obtain⟨B2,hB2⟩:=is_ex (after B1.q (pl t.p.m0 B1))
  obtain⟨C1,hC1⟩:=is_ex (after B2.q (ti t.p.m3 l))
  obtain⟨C2,hC2⟩:=is_ex (after C1.q (pl t.p.m2 C1))
  obtain⟨A1,hA1⟩:=is_ex (after C2.q (ti y B2))
  obtain⟨D1,hD1⟩:=is_ex (after A1.q (pl A1 C2))
  obtain⟨Z1,hZ1⟩:=is_ex (after D1.q (pl y y))
  obtain⟨X1,hX1⟩:=is_ex (after Z1.q (ti Z1 t.f))
  have G:=amp_is2 hy ht hl hB1 hB2 hC1 hC2 hA1 hD1 hZ1 hX1
  have f1:B1 = .bad l.q:=by rw[hB1.out,after_err _ k]
  have f2:B2 = .bad l.q:=by rw[hB2.out,f1,res_bad_q,after_err _ k]
  have f3:C1 = .bad l.q:=by rw[hC1.out,f2,res_bad_q,after_err _ k]
  have f4:C2 = .bad l.q:=by rw[hC2.out,f3,res_bad_q,after_err _ k]
  have f5:A1 = .bad l.q:=by rw[hA1.out,f4,res_bad_q,after_err _ k]
  have f6:D1 = .bad l.q:=by rw[hD1.out,f5,res_bad_q,after_err _ k]
  have f7:Z1 = .bad l.q:=by rw[hZ1.out,f6,res_bad_q,after_err _ k]
  have f8:X1 = .bad l.q:=by rw[hX1.out,f7,res_bad_q,after_err _ k]
  rw[f8,res_bad_q,after_err _ k]at G
  exact G
set_option maxRecDepth 100000 in
set_option maxHeartbeats 16000000 in
theorem r_amp2 (B:Nat) (A:Ask) (hA:AskOk A):RLG 103 #[.pointer (some ⟨B,0,none⟩),A.val,.bool true] B 0 A (ampR A true):=by
 intro w Aj
 have hlen:=hA.len
 have M0:=rmed_front A hA
 have M1:=rmed_last A hA
 obtain⟨Y,hY⟩:=is_ex (admR 0 A (A.med 0))
 have fY:Fine Y:=hY.fine (fine_adm _ _ _)
 obtain⟨t,ht⟩:∃t,t=thrR Y.q A true:=⟨_,rfl⟩
 obtain⟨L,hL⟩:=is_ex (admR t.q A (A.med (A.ls.length+1)))
 have fL:Fine L:=hL.fine (fine_adm _ _ _)
 have AD0:=(r_adm B 0 A 0 _ hA M0).to (by rw[med_zero]at hY;exact hY)
 have AL:=fun w L=>r_all2 B Y.q A hA t (by rw[ht];unfold HidT thrR;rw[List.drop_zero]) w L
 have AD1:=(r_adm B t.q A (A.ls.length+1) _ hA M1).to (by rw[med_past]at hL;exact hL)
 have AMP:=fun(p:Mat) (f:Res) (hp:t.q=0→p=t.p∧f=t.f) b1 b c1 c a d z x => @amp_isp2 A Y L b1 b c1 c a d z x f t p hp hY ht hL
 obtain⟨R,hR⟩:=is_ex (ampR A true)
 rw[← hR.out]
 rw[← hR.out]at AMP
 unfold RLG Ask.val at AD0 AD1
 unfold Ask.val at AL ⊢
 generalize hln:A.ls.length=len at *
 have AD0:=Lib.hid AD0
 have AD1:=Lib.hid AD1
 have AL:=Lib.hid AL
 have AMP:=Lib.hid AMP
 clear hR ht hY hL M0 M1 hA hln
 have hw1:wrap64 ((len:Int)+1)=len+1:=IntWalk.wrap64_in _ ⟨by omega,by omega⟩
 have hw2:IntKind.i64.wrap ((len:Int)+1)=len+1:=IntWalk.i64_in _ ⟨by omega,by omega⟩
 have Ao:=Aj.st
 have Gl:=tr_refl Ao
 have H7:=Ao.cell
 have H9:=Ao.free
 have Hh:=Ao.lt
 have Hw:=own5 Hh
 go_enter Tryz.func103,Tryz.ntmps103
 go_wp2_with fail
 refine(AD0.out _ (Rt.turn Aj (Trn.kp Gl kpw))).mono ?_
 rintro e w1 ⟨rfl,Ah⟩
 have Bf:=Ah.size_le
 (try simp at Bf)
 have Df:=tn5 Ah (w.heap.size)
 have Cg:=tn5 Ah (w.heap.size+1)
 obtain⟨D2,H2,H5,Hb,G6,De⟩:=rkx Aj Gl kpw Ah
 (try clear H7 H9)
 go_wp2_with fail
 refine(AL.out _ (Rt.turn Aj (Trn.kp D2 kpw))).mono ?_
 rintro E w2 ⟨p,F,rfl,fp,fF,hp,Bg⟩
 have Cf:=Bg.size_le
 (try simp at Cf)
 have Dn:=tn5 Bg (w.heap.size)
 have Cx:=tn5 Bg (w.heap.size+1)
 have Gr:=tn5 Bg (w1.heap.size)
 obtain⟨D3,H3,H6,Hc,G7,Dg⟩:=rkx Aj D2 kpw Bg
 (try clear De)
 have AMP:=AMP.out p F hp
 clear hp
 obtain⟨P0,P1,P2,P3⟩:=p
 obtain⟨fP0,fP1,fP2,fP3⟩:=fp
 simp only at AMP fP0 fP1 fP2 fP3
 simp only[Mat.ints]
 obtain⟨b1,hb1⟩:=is_ex (after L.q (ti P1 L))
 have fb1:Fine b1:=hb1.fine (fine_after _ (fine_ti _ _))
 obtain⟨b,hb⟩:=is_ex (after b1.q (pl P0 b1))
 have fb:Fine b:=hb.fine (fine_after _ (fine_pl _ _))
 obtain⟨c1,hc1⟩:=is_ex (after b.q (ti P3 L))
 have fc1:Fine c1:=hc1.fine (fine_after _ (fine_ti _ _))
 obtain⟨c,hc⟩:=is_ex (after c1.q (pl P2 c1))
 have fc:Fine c:=hc.fine (fine_after _ (fine_pl _ _))
 obtain⟨a,ha⟩:=is_ex (after c.q (ti Y b))
 have fa:Fine a:=ha.fine (fine_after _ (fine_ti _ _))
 obtain⟨d,hd⟩:=is_ex (after a.q (pl a c))
 have fd:Fine d:=hd.fine (fine_after _ (fine_pl _ _))
 obtain⟨z,hz⟩:=is_ex (after d.q (pl Y Y))
 have fz:Fine z:=hz.fine (fine_after _ (fine_pl _ _))
 obtain⟨x,hx⟩:=is_ex (after z.q (ti z F))
 have fx:Fine x:=hx.fine (fine_after _ (fine_ti _ _))
 have HR:=AMP b1 b c1 c a d z x hb1 hb hc1 hc ha hd hz hx
 have Tb1:=Lib.hid ((r_times B L.q P1 L fP1 fL).to hb1)
 have Tb:=Lib.hid ((r_plus B b1.q P0 b1 fP0 fb1).to hb)
 have Tc1:=Lib.hid ((r_times B b.q P3 L fP3 fL).to hc1)
 have Tc:=Lib.hid ((r_plus B c1.q P2 c1 fP2 fc1).to hc)
 have Ta:=Lib.hid ((r_times B c.q Y b fY fb).to ha)
 have Td:=Lib.hid ((r_plus B a.q a c fa fc).to hd)
 have Tz:=Lib.hid ((r_plus B d.q Y Y fY fY).to hz)
 have Tx:=Lib.hid ((r_times B z.q z F fz fF).to hx)
 have TR:=Lib.hid ((r_by B x.q x d fx fd).to HR)
 clear AMP HR hb1 hb hc1 hc ha hd hz hx fb1 fb fc1 fc fa fd fx fY fL fP0 fP1 fP2 fP3 fz fF
 generalize t.q=tq at *
 generalize F.a=fa at *
 generalize F.b=fb at *
 generalize F.c=fc at *
 go_wp2_with fail
 refine(AD1.out _ (Rt.turn Aj (Trn.kp D3 kpw))).mono ?_
 rintro e w21 ⟨rfl,A5⟩
 have Bj:=A5.size_le
 (try simp at Bj)
 have Bw:=tn5 A5 (w.heap.size)
 have Ay:=tn5 A5 (w.heap.size+1)
 have Ci:=tn5 A5 (w1.heap.size)
 have Cj:=tn5 A5 (w2.heap.size)
 have Bm:=tn5 A5 (w2.heap.size+1)
 obtain⟨Bu,Ev,F2,Fa,G8,Ch⟩:=rkx Aj D3 kpw A5
 (try clear Dg)
 repeat (first|(with_reducible refine wp_markr 4 ?_)|go_values|go_skip|go_guarded|go_step|go_upon|(simp only[];go_simp))
 refine wp_named (fun w22 A8 => ?_)
 have Ar:=congrArg (fun w=>w.heap.size) A8
 (try simp at Ar)
 replace Ar:=Nat.le_of_eq Ar.symm
 obtain⟨Av,Ew,F3,Fb,D5,Ck⟩:=rkn Aj Bu A8 kpw
 have Ba:=cas A8 (w.heap.size) [.int .i64 A.ix,.int .i64 A.sl,.int .i64 A.sh,.int .i64 A.po,.int .i64 A.wl,.int .i64 A.wh,.slice A.pa len A.cap,.int .i64 A.oi,.int .i64 A.ol]
 have An:=cas A8 (w.heap.size+1) [.int .i64 0,.int .i64 0,.int .i64 0]
 have Cl:=cas A8 (w1.heap.size) [.int .i64 Y.a,.int .i64 Y.b,.int .i64 Y.c]
 have Cm:=cas A8 (w2.heap.size) [.int .i64 P0.a,.int .i64 P0.b,.int .i64 P0.c,.int .i64 P1.a,.int .i64 P1.b,.int .i64 P1.c,.int .i64 P2.a,.int .i64 P2.b,.int .i64 P2.c,.int .i64 P3.a,.int .i64 P3.b,.int .i64 P3.c]
 have Bn:=cas A8 (w2.heap.size+1) [.int .i64 fa,.int .i64 fb,.int .i64 fc]
 have Am:=cas A8 (w21.heap.size) [.int .i64 L.a,.int .i64 L.b,.int .i64 L.c]
 simp only[CAf,Nat.reduceAdd,and_true]at Ba An Cl Cm Bn Am
 clear A8
 (try clear Bw Ay Ci Cj Bm Ch)
 go_wp2_with fail
 refine turn_new (fun i=>i==7||i==8) 9 #[.int .i64 0,.int .i64 0,.int .i64 0] 65 _ rfl (by kernel_rfl) (by kernel_rfl) (by first|omega|(simp;omega)) (St.cell (St.turn Ao (Trn.kp Av kpw))) (fun a w=>by kernel_rfl) fun hG => ?_
 have B8:=fun o=>hG (w.heap.size) lto o (ne_addr (by omega))
 have Aa:=fun o=>hG (w.heap.size+1) lto o (ne_addr (by omega))
 have Bd:=fun o=>hG (w1.heap.size) lto o (ne_addr (by omega))
 have Be:=fun o=>hG (w2.heap.size) lto o (ne_addr (by omega))
 have Al:=fun o=>hG (w2.heap.size+1) lto o (ne_addr (by omega))
 have Ai:=fun o=>hG (w21.heap.size) lto o (ne_addr (by omega))
 have A9:=fun o=>hG B lto (o+1) ne_off
 clear hG
 simp only[List.take_succ_cons,List.take_zero,List.drop_succ_cons,List.drop_zero]
 repeat (first|(refine wpTurn_pure rfl (fun K hK => ?_);go_simp;first|(refine hK _ _ ?_;clear hK K)|(apply Exists.intro;refine⟨fun _ _ => ?_,hK _ _ ?_⟩;(first|fail);clear hK K))|(refine wpTurn_eff rfl (fun K hK => ?_);go_simp;(first|(first|with_reducible refine⟨_,_,fun _=>tur_st (St.turn Ao (Trn.kp Av kpw)) (fun w h=>Tb1.out w h),?_⟩|with_reducible refine⟨_,_,fun _=>tur_st (St.turn Ao (Trn.kp Av kpw)) (fun w h=>Tb.out w h),?_⟩));refine hK _ _ ?_;clear hK K))
 refine wpTurn_nil ?_
 intro B1 w23 hN
 obtain⟨Ad,A4,Hd,Hj,Hl⟩:=hN
 (try simp at A4)
 clear A9 B8 Aa Bd Be Al Ai
 have As:=Ad.size_le
 (try simp at As)
 have Bx:=tn5 Ad (w.heap.size)
 have B0:=tn5 Ad (w.heap.size+1)
 have Fs:=tn5 Ad (w1.heap.size)
 have Ft:=tn5 Ad (w2.heap.size)
 have Di:=tn5 Ad (w2.heap.size+1)
 have Az:=tn5 Ad (w21.heap.size)
 obtain⟨Ak,Ex,F4,Fc,Cy,Co⟩:=rkx Aj Av kpw Ad
 (try clear Ck D5)
 have Gp:¬B1=w.heap.size:=by first|omega|(simp at A4;omega)
 have Gm:¬w.heap.size=B1:=by first|omega|(simp at A4;omega)
 have E3:¬B1=w.heap.size+1:=by first|omega|(simp at A4;omega)
 have Dw:¬w.heap.size+1=B1:=by first|omega|(simp at A4;omega)
 have Fl:¬B1=w1.heap.size:=by first|omega|(simp at A4;omega)
 have Fh:¬w1.heap.size=B1:=by first|omega|(simp at A4;omega)
 have Fm:¬B1=w2.heap.size:=by first|omega|(simp at A4;omega)
 have Fi:¬w2.heap.size=B1:=by first|omega|(simp at A4;omega)
 have Dc:¬B1=w2.heap.size+1:=by first|omega|(simp at A4;omega)
 have Da:¬w2.heap.size+1=B1:=by first|omega|(simp at A4;omega)
 have E2:¬B1=w21.heap.size:=by first|omega|(simp at A4;omega)
 have Dv:¬w21.heap.size=B1:=by first|omega|(simp at A4;omega)
 have E1:¬B1=B:=by first|omega|(simp at A4;omega)
 have Du:¬B=B1:=by first|omega|(simp at A4;omega)
 go_wp2_with fail
 refine turn_new (fun i=>i==7||i==8) 9 #[.int .i64 0,.int .i64 0,.int .i64 0] 65 _ rfl (by kernel_rfl) (by kernel_rfl) (by first|omega|(simp;omega)) (St.cell (St.turn Ao (Trn.kp Ak kpw))) (fun a w=>by kernel_rfl) fun hG => ?_
 have B8:=fun o=>hG (w.heap.size) lto o (ne_addr (by omega))
 have Aa:=fun o=>hG (w.heap.size+1) lto o (ne_addr (by omega))
 have Bd:=fun o=>hG (w1.heap.size) lto o (ne_addr (by omega))
 have Be:=fun o=>hG (w2.heap.size) lto o (ne_addr (by omega))
 have Al:=fun o=>hG (w2.heap.size+1) lto o (ne_addr (by omega))
 have Ai:=fun o=>hG (w21.heap.size) lto o (ne_addr (by omega))
 have D9:=fun o=>hG (B1) lto o (ne_addr (by omega))
 have A9:=fun o=>hG B lto (o+1) ne_off
 clear hG
 simp only[List.take_succ_cons,List.take_zero,List.drop_succ_cons,List.drop_zero]
 repeat (first|(refine wpTurn_pure rfl (fun K hK => ?_);go_simp;first|(refine hK _ _ ?_;clear hK K)|(apply Exists.intro;refine⟨fun _ _ => ?_,hK _ _ ?_⟩;(first|fail);clear hK K))|(refine wpTurn_eff rfl (fun K hK => ?_);go_simp;(first|(first|with_reducible refine⟨_,_,fun _=>tur_st (St.turn Ao (Trn.kp Ak kpw)) (fun w h=>Tc1.out w h),?_⟩|with_reducible refine⟨_,_,fun _=>tur_st (St.turn Ao (Trn.kp Ak kpw)) (fun w h=>Tc.out w h),?_⟩));refine hK _ _ ?_;clear hK K))
 refine wpTurn_nil ?_
 intro B2 w24 hN
 obtain⟨A0,A2,He,Hk,Hm⟩:=hN
 (try simp at A2)
 clear A9 B8 Aa Bd Be Al Ai D9
 have Bk:=A0.size_le
 (try simp at Bk)
 have By:=tn5 A0 (w.heap.size)
 have B4:=tn5 A0 (w.heap.size+1)
 have Fu:=tn5 A0 (w1.heap.size)
 have Fv:=tn5 A0 (w2.heap.size)
 have Dj:=tn5 A0 (w2.heap.size+1)
 have B3:=tn5 A0 (w21.heap.size)
 have E9:=tn5 A0 (B1)
 obtain⟨Bv,Ey,F5,Fd,Cz,Cq⟩:=rkx Aj Ak kpw A0
 (try clear Co Cy)
 have Gq:¬B2=w.heap.size:=by first|omega|(simp at A2;omega)
 have Gn:¬w.heap.size=B2:=by first|omega|(simp at A2;omega)
 have E6:¬B2=w.heap.size+1:=by first|omega|(simp at A2;omega)
 have Dz:¬w.heap.size+1=B2:=by first|omega|(simp at A2;omega)
 have Fn:¬B2=w1.heap.size:=by first|omega|(simp at A2;omega)
 have Fj:¬w1.heap.size=B2:=by first|omega|(simp at A2;omega)
 have Fo:¬B2=w2.heap.size:=by first|omega|(simp at A2;omega)
 have Fk:¬w2.heap.size=B2:=by first|omega|(simp at A2;omega)
 have Dd:¬B2=w2.heap.size+1:=by first|omega|(simp at A2;omega)
 have Db:¬w2.heap.size+1=B2:=by first|omega|(simp at A2;omega)
 have E5:¬B2=w21.heap.size:=by first|omega|(simp at A2;omega)
 have Dy:¬w21.heap.size=B2:=by first|omega|(simp at A2;omega)
 have E7:¬B2=B1:=by first|omega|(simp at A2;omega)
 have E0:¬B1=B2:=by first|omega|(simp at A2;omega)
 have E4:¬B2=B:=by first|omega|(simp at A2;omega)
 have Dx:¬B=B2:=by first|omega|(simp at A2;omega)
 go_wp2_with fail
 refine(Ta.out _ (St.turn Ao (Trn.kp Bv kpw))).mono ?_
 rintro e w25 ⟨rfl,Ae⟩
 have At:=Ae.size_le
 (try simp at At)
 have Bz:=tn5 Ae (w.heap.size)
 have B5:=tn5 Ae (w.heap.size+1)
 have Fw:=tn5 Ae (w1.heap.size)
 have Fx:=tn5 Ae (w2.heap.size)
 have Dk:=tn5 Ae (w2.heap.size+1)
 have Ea:=tn5 Ae (B2)
 obtain⟨Ap,Ez,F6,Fe,D0,Cs⟩:=rkx Aj Bv kpw Ae
 (try clear Cq Cz)
 go_wp2_with fail
 refine(Td.out _ (St.turn Ao (Trn.kp Ap kpw))).mono ?_
 rintro e w26 ⟨rfl,A3⟩
 have Bl:=A3.size_le
 (try simp at Bl)
 have C0:=tn5 A3 (w.heap.size)
 have B6:=tn5 A3 (w.heap.size+1)
 have Fy:=tn5 A3 (w1.heap.size)
 have Fz:=tn5 A3 (w2.heap.size)
 have Dl:=tn5 A3 (w2.heap.size+1)
 obtain⟨Aq,F0,F7,Ff,D6,Cu⟩:=rkx Aj Ap kpw A3
 (try clear Cs D0)
 go_wp2_with fail
 refine turn (fun i=>i==5||i==7||i==9) 10 (by kernel_rfl) (by kernel_rfl) (St.cell (St.turn Ao (Trn.kp Aq kpw))) fun hG => ?_
 have B8:=fun o=>hG (w.heap.size) lto o (ne_addr (by omega))
 have Aa:=fun o=>hG (w.heap.size+1) lto o (ne_addr (by omega))
 have Bd:=fun o=>hG (w1.heap.size) lto o (ne_addr (by omega))
 have Be:=fun o=>hG (w2.heap.size) lto o (ne_addr (by omega))
 have Al:=fun o=>hG (w2.heap.size+1) lto o (ne_addr (by omega))
 have D8:=fun o=>hG (w26.heap.size) lto o (ne_addr (by omega))
 have A9:=fun o=>hG B lto (o+1) ne_off
 clear hG
 simp only[List.take_succ_cons,List.take_zero,List.drop_succ_cons,List.drop_zero]
 repeat (first|(refine wpTurn_pure rfl (fun K hK => ?_);go_simp;first|(refine hK _ _ ?_;clear hK K)|(apply Exists.intro;refine⟨fun _ _ => ?_,hK _ _ ?_⟩;(first|fail);clear hK K))|(refine wpTurn_eff rfl (fun K hK => ?_);go_simp;(first|(first|with_reducible refine⟨_,_,fun _=>tur_st (St.turn Ao (Trn.kp Aq kpw)) (fun w h=>Tz.out w h),?_⟩|with_reducible refine⟨_,_,fun _=>tur_st (St.turn Ao (Trn.kp Aq kpw)) (fun w h=>Tx.out w h),?_⟩|with_reducible refine⟨_,_,fun _=>tur_st (St.turn Ao (Trn.kp Aq kpw)) (fun w h=>TR.out w h),?_⟩));refine hK _ _ ?_;clear hK K))
 refine wpTurn_nil ?_
 intro w27 Af
 clear A9 B8 Aa Bd Be Al D8
 have Au:=Af.size_le
 (try simp at Au)
 have C3:=tn5 Af (w.heap.size)
 have B7:=tn5 Af (w.heap.size+1)
 have G1:=tn5 Af (w1.heap.size)
 have G2:=tn5 Af (w2.heap.size)
 have Dm:=tn5 Af (w2.heap.size+1)
 have Ed:=tn5 Af (w26.heap.size)
 obtain⟨F9,F1,F8,Fg,G9,G0⟩:=rkx Aj Aq kpw Af
 (try clear Cu)
 repeat' (first|go_values|go_skip|go_guarded|go_step|go_upon|(simp only[];go_simp))
 (with_reducible show bodyPost _ _ _ _ _ _);refine bodyPost_ret (by simp[results,Tryz.results103,go_sem, *];first|done|rfl) rfl ?_
 exact⟨rfl,trw⟩
set_option maxHeartbeats 4000000 in
theorem rTransmitted_any (A:Ask) (hA:AskOk A) (w:World) (hr:Row A.pa A.ls w) :
  Calls Tryz.prog 34 #[A.val] w fun E w'=>E = .returned (.tuple #[.agg #[.int .i64 (ampR A true).a,.int .i64 (ampR A true).b,.int .i64 (ampR A true).c],.int .i64 (ampR A true).q])∧Below w.heap.size w w':=by
 have AM:=fun B=>r_amp2 B A hA
 generalize ampR A true=R at *
 unfold RLG Ask.val at AM
 unfold Ask.val
 have AM:=Lib.hid AM
 have HR:=Lib.hid hr
 have HP:=Lib.hid hr.blk
 clear hr hA
 go_enter Tryz.func34,Tryz.ntmps34
 go_wp2_with fail
 refine(AM.out (w.heap.size+1+1) _ ⟨⟨by go_simp,by go_simp,by simp⟩,HR.out.bel blw,fun a h hl=>by have:=HP.out a h hl;omega⟩).mono ?_
 rintro e w1 ⟨rfl,Ah⟩
 have Bf:=Ah.size_le
 (try simp at Bf)
 have Aw:Below w.heap.size w w1:=Below.trans (show Below w.heap.size w _ from blw) (Ah.below (by omega) (by simp;omega))
 have S1:=St.turn (e:=0) ⟨by go_simp,by go_simp,by simp⟩ Ah
 have Hq:=S1.cell
 have Hr:=S1.free
 have Hx:=S1.lt
 have Ag:=fun o=>Ah.other (k:=w.heap.size+1) (o:=o) (by first|(simp;done)|(simp;omega)) (ne_addr (by omega))
 have Ax:=fun o=>Ah.free (k:=w.heap.size+1) (o:=o) (by first|(simp;done)|(simp;omega))
 have s0:w1.cell? ⟨w.heap.size+1,0,none⟩=some (.int .i64 0):=(Ag 0).trans (by go_simp)
 have s1:w1.cell? ⟨w.heap.size+1,1,none⟩=some (.int .i64 0):=(Ag 1).trans (by go_simp)
 have s2:w1.cell? ⟨w.heap.size+1,2,none⟩=some (.int .i64 0):=(Ag 2).trans (by go_simp)
 have sf:∀o,w1.frozen? ⟨w.heap.size+1,o,none⟩=false:=fun o=>(Ax o).trans (by go_simp)
 clear Ag Ax
 have n0:w.heap.size+1<w1.heap.size:=by omega
 have n1:¬w.heap.size+1=w1.heap.size:=by omega
 have n2:¬w.heap.size+1+1=w1.heap.size:=by omega
 have n3:w.heap.size+1<w1.heap.size+1:=by omega
 have n4:w.heap.size+1+1<w1.heap.size+1:=by omega
 go_wp2_with fail
 (go_region_held3 (fun w'=>w'.cell? ⟨w.heap.size+1+1,0,none⟩=some (.int .i64 R.q)∧w'.cell? ⟨w1.heap.size,0,none⟩=some (.int .i64 R.a)∧w'.cell? ⟨w1.heap.size,1,none⟩=some (.int .i64 R.b)∧w'.cell? ⟨w1.heap.size,2,none⟩=some (.int .i64 R.c)) (simp[*,go_sem]) (fail))
 repeat' (first|go_values|go_skip|go_guarded|go_step|go_upon|(simp only[];go_simp))
 (with_reducible show bodyPost _ _ _ _ _ _);refine bodyPost_ret (by simp[results,Tryz.results34,go_sem, *];first|done|rfl) rfl ?_
 exact⟨rfl,blw⟩
end Go.Proofs.YtnljkhlmdacfaaaGreatDoor
