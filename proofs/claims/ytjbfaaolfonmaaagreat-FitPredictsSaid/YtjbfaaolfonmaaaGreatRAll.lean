/- The product of all layers: the reference's walk. -/
import Derived.Test.YtjbfaaolfonmaaaGreatKRc
import Derived.Test.YtjbfaaolfonmaaaGreatKRa
import Derived.Test.YtjbfaaolfonmaaaGreatRProd
import Derived.Test.YtjbfaaolfonmaaaGreatKThr
namespace Go.Proofs.YtjbfaaolfonmaaaGreat
open Go Go.Sort Go.RowKit
theorem adm_bad {e:Int}{A:Ask}{b:Box} (h:e≠0):(admR e A b).q=e:=by
 have h1:nsqR e A b = .bad e:=by unfold nsqR;simp only[idx_bad h,res_bad_q,after_err _ h]
 have h2:norR e A b = .bad e:=by unfold norR;simp only[h1,res_bad_q,after_err _ h]
 by_cases hp:A.po=0
 ·rw[adm_refs hp,h2,res_bad_q]
 ·rw[adm_ref hp,h2,res_bad_q,after_err _ h,res_bad_q]
theorem fac_bad0 {e:Int}{A:Ask}{b:Box}{n:Int} (h:e≠0):(facR e A b n).q=e:=by
 have h1:nsqR e A b = .bad e:=by unfold nsqR;simp only[idx_bad h,res_bad_q,after_err _ h]
 have h2:norR e A b = .bad e:=by unfold norR;simp only[h1,res_bad_q,after_err _ h]
 have h3:¬(norR e A b).q=0:=by rw[h2,res_bad_q];exact h
 rw[fac_bad h3,res_bad_q,h2,res_bad_q]
theorem mat_bad {e:Int}{y g:Res} (h:e≠0):(matR e y g).2=e:=by
 unfold matR;simp only[after_err _ h,res_bad_q]
theorem mul_bad {e:Int}{p m:Mat} (h:e≠0):(mulR e p m).2=e:=by
 unfold mulR dotR;simp only[after_err _ h,res_bad_q]
theorem step_bad {A:Ask}{s:Thr}{b:Box} (h:s.q≠0):(stepR A false s b).q=s.q:=by
 unfold stepR
 simp[adm_bad h,fac_bad0 h,mat_bad h,mul_bad h]
def AllRet (T:Thr) (B:Nat) (w:World) (E:Ending) (w':World):Prop:=∃(p:Mat) (f:Res),E = .returned (.tuple #[.agg p.ints,.agg #[.int .i64 f.a,.int .i64 f.b,.int .i64 f.c]])∧p.fine∧(T.q=0→p=T.p)∧Trn B T.q w w'
theorem allRet_bad {T:Thr}{B:Nat}{w w':World} (h:T.q≠0) (t:Trn B T.q w w'):AllRet T B w (.returned (.tuple #[.agg #[.int .i64 0,.int .i64 0,.int .i64 0,.int .i64 0,.int .i64 0,.int .i64 0,.int .i64 0,.int .i64 0,.int .i64 0,.int .i64 0,.int .i64 0,.int .i64 0],.agg #[.int .i64 0,.int .i64 0,.int .i64 0]])) w':=by
 obtain⟨z1,z2,z3⟩:noneR.a=0∧noneR.b=0∧noneR.c=0:=by unfold noneR;exact⟨(quad_good _ _ _).1,(quad_good _ _ _).2.1,(quad_good _ _ _).2.2.1⟩
 refine⟨⟨noneR,noneR,noneR,noneR⟩,noneR,?_,⟨fine_noneR,fine_noneR,fine_noneR,fine_noneR⟩,fun h0=>absurd h0 h,t⟩
 simp only[Mat.ints,z1,z2,z3]
theorem allRet_ok {T:Thr}{B:Nat}{w w':World} (f:Res) (hf:T.p.fine) (t:Trn B T.q w w'):AllRet T B w (.returned (.tuple #[.agg T.p.ints,.agg #[.int .i64 f.a,.int .i64 f.b,.int .i64 f.c]])) w':=⟨T.p,f,rfl,hf,fun _=>rfl,t⟩
structure Ats (w:World) (b:Nat) (vs:Array Value):Prop where
 cell:∀(j:Nat) (h:j<vs.size),w.cell? ⟨b,j,none⟩=some vs[j]
 fr:∀o,w.frozen? ⟨b,o,none⟩=false
set_option maxRecDepth 100000 in
set_option maxHeartbeats 8000000 in
theorem r_all (B:Nat) (e:Int) (A:Ask) (hA:AskOk A) (T:Thr) (hT:HidT A false ⟨⟨oneR,noneR,noneR,oneR⟩,oneR,e⟩ T 0) (w:World) (Aj:Rt B e A w) :
  Calls Tryz.prog 176 #[.pointer (some ⟨B,0,none⟩),A.val,.bool false] w fun E w'=>AllRet T B w E w':=by
 have hlen:=hA.len
 obtain⟨z1,z2,z3⟩:noneR.a=0∧noneR.b=0∧noneR.c=0:=by unfold noneR;exact⟨(quad_good _ _ _).1,(quad_good _ _ _).2.1,(quad_good _ _ _).2.2.1⟩
 unfold Ask.val
 have Dz:=Aj.st
 have Gg:=tr_refl Dz
 have Gi:=Dz.cell
 have Gj:=Dz.free
 have Gr:=Dz.lt
 have Gs:=own5 Gr
 go_enter Tryz.func176,Tryz.ntmps176
 go_wp2_with fail
 refine(r_one _).mono ?_
 rintro e w1 ⟨rfl,Ap⟩
 have Ey:=Ap.size
 (try simp at Ey)
 have Fx:=bl5 Ap (w.heap.size)
 have F1:=bl5 Ap (w.heap.size+1)
 have F2:=bl5 Ap (w.heap.size+1+1)
 obtain⟨Fu,Ga,Gd,Gk,G1,Fw⟩:=rkb Aj Gg kpw Ap
 (try clear Gi Gj)
 go_wp2_with fail
 refine(r_one _).mono ?_
 rintro e w2 ⟨rfl,Aq⟩
 have Ez:=Aq.size
 (try simp at Ez)
 have Fz:=bl5 Aq (w.heap.size)
 have F3:=bl5 Aq (w.heap.size+1)
 have F4:=bl5 Aq (w.heap.size+1+1)
 obtain⟨Fv,Gb,Ge,Gl,G2,Fy⟩:=rkb Aj Fu kpw Aq
 (try clear Fw G1)
 go_wp2_with fail
 refine(r_one _).mono ?_
 rintro e w3 ⟨rfl,Ar⟩
 have F0:=Ar.size
 (try simp at F0)
 have G0:=bl5 Ar (w.heap.size)
 have F5:=bl5 Ar (w.heap.size+1)
 have F6:=bl5 Ar (w.heap.size+1+1)
 obtain⟨Gh,Gc,Gf,Gm,Gq,Gp⟩:=rkb Aj Fv kpw Ar
 (try clear Fy G2)
 go_wp2_with fail
 go_loopw [10] (fun i wr=>∃(k:Nat) (p0 p1 p2 p3 f:Res) (q:Int),k≤A.ls.length∧i = .int .i64 (k+1)∧(⟨p0,p1,p2,p3⟩:Mat).fine∧HidT A false ⟨⟨p0,p1,p2,p3⟩,f,q⟩ T k∧Trn B q w wr∧w3.heap.size+1<wr.heap.size∧wr.cell? ⟨w.heap.size,0,none⟩=some (Value.int .i64 A.ix)∧wr.cell? ⟨w.heap.size,1,none⟩=some (Value.int .i64 A.sl)∧wr.cell? ⟨w.heap.size,2,none⟩=some (Value.int .i64 A.sh)∧wr.cell? ⟨w.heap.size,3,none⟩=some (Value.int .i64 A.po)∧wr.cell? ⟨w.heap.size,4,none⟩=some (Value.int .i64 A.wl)∧wr.cell? ⟨w.heap.size,5,none⟩=some (Value.int .i64 A.wh)∧wr.cell? ⟨w.heap.size,6,none⟩=some (Value.slice A.pa A.ls.length A.cap)∧wr.cell? ⟨w.heap.size,7,none⟩=some (Value.int .i64 A.oi)∧wr.cell? ⟨w.heap.size,8,none⟩=some (Value.int .i64 A.ol)∧(∀o,wr.frozen? ⟨w.heap.size,o,none⟩=false)∧wr.cell? ⟨w.heap.size+1,0,none⟩=some (Value.int .i64 0)∧wr.cell? ⟨w.heap.size+1,1,none⟩=some (Value.int .i64 0)∧wr.cell? ⟨w.heap.size+1,2,none⟩=some (Value.int .i64 0)∧wr.cell? ⟨w.heap.size+1,3,none⟩=some (Value.int .i64 0)∧wr.cell? ⟨w.heap.size+1,4,none⟩=some (Value.int .i64 0)∧wr.cell? ⟨w.heap.size+1,5,none⟩=some (Value.int .i64 0)∧wr.cell? ⟨w.heap.size+1,6,none⟩=some (Value.int .i64 0)∧wr.cell? ⟨w.heap.size+1,7,none⟩=some (Value.int .i64 0)∧wr.cell? ⟨w.heap.size+1,8,none⟩=some (Value.int .i64 0)∧wr.cell? ⟨w.heap.size+1,9,none⟩=some (Value.int .i64 0)∧wr.cell? ⟨w.heap.size+1,10,none⟩=some (Value.int .i64 0)∧wr.cell? ⟨w.heap.size+1,11,none⟩=some (Value.int .i64 0)∧(∀o,wr.frozen? ⟨w.heap.size+1,o,none⟩=false)∧wr.cell? ⟨w.heap.size+1+1,0,none⟩=some (Value.int .i64 0)∧wr.cell? ⟨w.heap.size+1+1,1,none⟩=some (Value.int .i64 0)∧wr.cell? ⟨w.heap.size+1+1,2,none⟩=some (Value.int .i64 0)∧(∀o,wr.frozen? ⟨w.heap.size+1+1,o,none⟩=false)∧wr.cell? ⟨w3.heap.size,0,none⟩=some (Value.int .i64 p0.a)∧wr.cell? ⟨w3.heap.size,1,none⟩=some (Value.int .i64 p0.b)∧wr.cell? ⟨w3.heap.size,2,none⟩=some (Value.int .i64 p0.c)∧wr.cell? ⟨w3.heap.size,3,none⟩=some (Value.int .i64 p1.a)∧wr.cell? ⟨w3.heap.size,4,none⟩=some (Value.int .i64 p1.b)∧wr.cell? ⟨w3.heap.size,5,none⟩=some (Value.int .i64 p1.c)∧wr.cell? ⟨w3.heap.size,6,none⟩=some (Value.int .i64 p2.a)∧wr.cell? ⟨w3.heap.size,7,none⟩=some (Value.int .i64 p2.b)∧wr.cell? ⟨w3.heap.size,8,none⟩=some (Value.int .i64 p2.c)∧wr.cell? ⟨w3.heap.size,9,none⟩=some (Value.int .i64 p3.a)∧wr.cell? ⟨w3.heap.size,10,none⟩=some (Value.int .i64 p3.b)∧wr.cell? ⟨w3.heap.size,11,none⟩=some (Value.int .i64 p3.c)∧(∀o,wr.frozen? ⟨w3.heap.size,o,none⟩=false)∧wr.cell? ⟨w3.heap.size+1,0,none⟩=some (Value.int .i64 f.a)∧wr.cell? ⟨w3.heap.size+1,1,none⟩=some (Value.int .i64 f.b)∧wr.cell? ⟨w3.heap.size+1,2,none⟩=some (Value.int .i64 f.c)∧(∀o,wr.frozen? ⟨w3.heap.size+1,o,none⟩=false)) (fun i _=>A.ls.length+2-(intOf i).toNat)
 case atStart=>exact⟨0,oneR,noneR,noneR,oneR,oneR,e,by omega,rfl,ones,hT,trw,by first|omega|(simp;done)|(simp;omega),by go_simp,by go_simp,by go_simp,by go_simp,by go_simp,by go_simp,by go_simp,by go_simp,by go_simp,fun o=>by go_simp,by go_simp,by go_simp,by go_simp,by go_simp,by go_simp,by go_simp,by go_simp,by go_simp,by go_simp,by go_simp,by go_simp,by go_simp,fun o=>by go_simp,by go_simp,by go_simp,by go_simp,fun o=>by go_simp,by go_simp,by go_simp,by go_simp,by go_simp,by go_simp,by go_simp,by go_simp,by go_simp,by go_simp,by go_simp,by go_simp,by go_simp,fun o=>by go_simp,by go_simp,by go_simp,by go_simp,fun o=>by go_simp⟩
 case round =>
  obtain⟨k,p0,p1,p2,p3,f,q,hk,rfl,fp,HT,Cf,hsz,Fj,Fk,Fl,Fm,Fn,Fo,Fp,Fq,Fr,Fs,Eb,Ef,Eh,Ej,Ek,El,Em,En,Eo,Ep,E6,E7,Eq,Ec,Eg,Ei,Er,F8,F9,Fa,Fb,Fc,Fd,Fe,Ff,Fg,Fh,Ed,Ee,Fi,E5,E8,E9,Ea⟩:=hrel
  clear hT z1 z2 z3
  have hd0:¬w.heap.size=w3.heap.size:=by omega
  have he0:¬w3.heap.size=w.heap.size:=by omega
  have hd1:¬w.heap.size=w3.heap.size+1:=by omega
  have he1:¬w3.heap.size+1=w.heap.size:=by omega
  have hd2:¬w.heap.size+1=w3.heap.size:=by omega
  have he2:¬w3.heap.size=w.heap.size+1:=by omega
  have hd3:¬w.heap.size+1=w3.heap.size+1:=by omega
  have he3:¬w3.heap.size+1=w.heap.size+1:=by omega
  have hd4:¬w.heap.size+1+1=w3.heap.size:=by omega
  have he4:¬w3.heap.size=w.heap.size+1+1:=by omega
  have hd5:¬w.heap.size+1+1=w3.heap.size+1:=by omega
  have he5:¬w3.heap.size+1=w.heap.size+1+1:=by omega
  have Gn:=Cf.le
  have Ft:=Rt.turn Aj Cf
  have E3:=Ft.st
  have Es:=E3.cell
  have Et:=E3.free
  have G3:=E3.lt
  have F7:=own5 G3
  generalize hln:A.ls.length=len at *
  by_cases hlt:k<len
  ·have hc1:((k:Int)+1≤len):=by omega
   obtain⟨b,hb⟩:∃b,A.ls[k]?=some b:=⟨_,List.getElem?_eq_getElem (by omega)⟩
   have hM:RMed A ((k:Int)+1) b:=rmed_layer A hA k b hb
   obtain⟨Y,hY⟩:=is_ex (admR q A b)
   have fY:Fine Y:=hY.fine (fine_adm _ _ _)
   obtain⟨G,hG⟩:=is_ex (facR Y.q A b 2)
   have fG:Fine G:=hG.fine (fine_fac _ _ _ _)
   have AD:=(r_adm B q A ((k:Int)+1) b hA hM).to hY
   have FA:=(r_factor2 B Y.q A ((k:Int)+1) b hA hM).to hG
   have MA:=fun w S=>r_matrix B G.q Y G fY fG w S
   have fm:=mat_fine G.q Y G
   have ST:=step_no (s:=⟨⟨p0,p1,p2,p3⟩,f,q⟩) hY hG
   generalize hm:matR G.q Y G=M at *
   obtain⟨⟨m0,m1,m2,m3⟩,EM⟩:=M
   have MU:=fun w L=>r_product B EM ⟨p0,p1,p2,p3⟩ ⟨m0,m1,m2,m3⟩ fp fm A w L
   have fn:=mul_fine EM ⟨p0,p1,p2,p3⟩ ⟨m0,m1,m2,m3⟩
   simp only at ST
   generalize hn:mulR EM ⟨p0,p1,p2,p3⟩ ⟨m0,m1,m2,m3⟩=N at *
   obtain⟨⟨n0,n1,n2,n3⟩,EN⟩:=N
   simp only[Mat.ints]at MA MU ST fn
   have hbad:q≠0→EN=q:=fun h=>by have:=step_bad (A:=A) (s:=⟨⟨p0,p1,p2,p3⟩,f,q⟩) (b:=b) h;rw[ST]at this;exact this
   unfold RLG Ask.val at AD FA
   rw[hln]at AD FA
   have AD:=Lib.hid AD
   have FA:=Lib.hid FA
   have MA:=Lib.hid MA
   have MU:=Lib.hid MU
   by_cases hE:EN=0
   ·have hq:q=0:=Classical.byContradiction fun h=>by have:=hbad h;omega
    have HT':HidT A false ⟨⟨n0,n1,n2,n3⟩,f,EN⟩ T (k+1):=by have h:=HT;unfold HidT at h ⊢;rw[run_step hq hb,ST]at h;exact h
    have hE1:(EN != 0)=false:=by simpa using hE
    have HT':=Lib.hid HT'
    have fn:=Lib.hid fn
    clear HT ST hm hn hM fm hq hb hE hbad
    go_wp2_with fail
    refine(AD.out _ (Rt.turn Aj (Trn.kp Cf kpw))).mono ?_
    rintro e w21 ⟨rfl,A3⟩
    have B7:=A3.size_le
    (try simp at B7)
    have Dx:=tn5 A3 (w.heap.size)
    have Cj:=tn5 A3 (w.heap.size+1)
    have Ck:=tn5 A3 (w.heap.size+1+1)
    have De:=tn5 A3 (w3.heap.size)
    have Bn:=tn5 A3 (w3.heap.size+1)
    have A8:=Trn.nx Cf kpw A3
    have Eu:=A8.le
    have D0:=Rt.turn Aj A8
    have Ac:=D0.st
    have D4:=Ac.cell
    have D7:=Ac.free
    have Dt:=Ac.lt
    have Dg:=own5 Dt
    (try clear Es Et F7)
    go_wp2_with fail
    refine(FA.out _ (Rt.turn Aj (Trn.kp A8 kpw))).mono ?_
    rintro e w22 ⟨rfl,A2⟩
    have B8:=A2.size_le
    (try simp at B8)
    have Ao:=tn5 A2 (w.heap.size)
    have Aa:=tn5 A2 (w.heap.size+1)
    have Ab:=tn5 A2 (w.heap.size+1+1)
    have Ah:=tn5 A2 (w3.heap.size)
    have A7:=tn5 A2 (w3.heap.size+1)
    have A9:=tn5 A2 (w21.heap.size)
    have Ag:=Trn.nx A8 kpw A2
    have Ev:=Ag.le
    have D1:=Rt.turn Aj Ag
    have Ad:=D1.st
    have D5:=Ad.cell
    have D8:=Ad.free
    have Du:=Ad.lt
    have Dh:=own5 Du
    (try clear D4 D7 Dg)
    repeat (first|(with_reducible refine wp_markr 9 ?_)|go_values|go_skip|go_guarded|go_step|go_upon|(simp only[];go_simp))
    refine wp_named (fun w23 A0 => ?_)
    have A6:=congrArg (fun w=>w.heap.size) A0
    (try simp at A6)
    replace A6:=Nat.le_of_eq A6.symm
    have A4:=Trn.kp Ag (show Kp w.heap.size w22 w23 from A0▸kpw)
    have Ew:=A4.le
    have D2:=Rt.turn Aj A4
    have Ae:=D2.st
    have D6:=Ae.cell
    have D9:=Ae.free
    have Dv:=Ae.lt
    have Di:=own5 Dv
    have Dd:w.heap.size<w23.heap.size:=(by omega)
    have Dc:w.heap.size<w23.heap.size+1:=(by omega)
    have Db:w.heap.size<w23.heap.size+1+1:=(by omega)
    have Dj:w23.cell? ⟨w.heap.size,0,none⟩=some (Value.int .i64 A.ix):=(by rw[A0];go_simp)
    have Dk:w23.cell? ⟨w.heap.size,1,none⟩=some (Value.int .i64 A.sl):=(by rw[A0];go_simp)
    have Dl:w23.cell? ⟨w.heap.size,2,none⟩=some (Value.int .i64 A.sh):=(by rw[A0];go_simp)
    have Dm:w23.cell? ⟨w.heap.size,3,none⟩=some (Value.int .i64 A.po):=(by rw[A0];go_simp)
    have Dn:w23.cell? ⟨w.heap.size,4,none⟩=some (Value.int .i64 A.wl):=(by rw[A0];go_simp)
    have Do:w23.cell? ⟨w.heap.size,5,none⟩=some (Value.int .i64 A.wh):=(by rw[A0];go_simp)
    have Dp:w23.cell? ⟨w.heap.size,6,none⟩=some (Value.slice A.pa len A.cap):=(by rw[A0];go_simp)
    have Dq:w23.cell? ⟨w.heap.size,7,none⟩=some (Value.int .i64 A.oi):=(by rw[A0];go_simp)
    have Dr:w23.cell? ⟨w.heap.size,8,none⟩=some (Value.int .i64 A.ol):=(by rw[A0];go_simp)
    have Ds:∀o,w23.frozen? ⟨w.heap.size,o,none⟩=false:=(fun o=>by rw[A0];go_simp)
    have Bl:w.heap.size+1<w23.heap.size:=(by omega)
    have Bh:w.heap.size+1<w23.heap.size+1:=(by omega)
    have Bd:w.heap.size+1<w23.heap.size+1+1:=(by omega)
    have Br:w23.cell? ⟨w.heap.size+1,0,none⟩=some (Value.int .i64 0):=(by rw[A0];go_simp)
    have Bx:w23.cell? ⟨w.heap.size+1,1,none⟩=some (Value.int .i64 0):=(by rw[A0];go_simp)
    have C1:w23.cell? ⟨w.heap.size+1,2,none⟩=some (Value.int .i64 0):=(by rw[A0];go_simp)
    have C3:w23.cell? ⟨w.heap.size+1,3,none⟩=some (Value.int .i64 0):=(by rw[A0];go_simp)
    have C4:w23.cell? ⟨w.heap.size+1,4,none⟩=some (Value.int .i64 0):=(by rw[A0];go_simp)
    have C5:w23.cell? ⟨w.heap.size+1,5,none⟩=some (Value.int .i64 0):=(by rw[A0];go_simp)
    have C6:w23.cell? ⟨w.heap.size+1,6,none⟩=some (Value.int .i64 0):=(by rw[A0];go_simp)
    have C7:w23.cell? ⟨w.heap.size+1,7,none⟩=some (Value.int .i64 0):=(by rw[A0];go_simp)
    have C8:w23.cell? ⟨w.heap.size+1,8,none⟩=some (Value.int .i64 0):=(by rw[A0];go_simp)
    have C9:w23.cell? ⟨w.heap.size+1,9,none⟩=some (Value.int .i64 0):=(by rw[A0];go_simp)
    have Ax:w23.cell? ⟨w.heap.size+1,10,none⟩=some (Value.int .i64 0):=(by rw[A0];go_simp)
    have Ay:w23.cell? ⟨w.heap.size+1,11,none⟩=some (Value.int .i64 0):=(by rw[A0];go_simp)
    have Cc:∀o,w23.frozen? ⟨w.heap.size+1,o,none⟩=false:=(fun o=>by rw[A0];go_simp)
    have Bm:w.heap.size+1+1<w23.heap.size:=(by omega)
    have Bi:w.heap.size+1+1<w23.heap.size+1:=(by omega)
    have Be:w.heap.size+1+1<w23.heap.size+1+1:=(by omega)
    have Bs:w23.cell? ⟨w.heap.size+1+1,0,none⟩=some (Value.int .i64 0):=(by rw[A0];go_simp)
    have By:w23.cell? ⟨w.heap.size+1+1,1,none⟩=some (Value.int .i64 0):=(by rw[A0];go_simp)
    have C2:w23.cell? ⟨w.heap.size+1+1,2,none⟩=some (Value.int .i64 0):=(by rw[A0];go_simp)
    have Cd:∀o,w23.frozen? ⟨w.heap.size+1+1,o,none⟩=false:=(fun o=>by rw[A0];go_simp)
    have Ci:w3.heap.size<w23.heap.size:=(by omega)
    have Ch:w3.heap.size<w23.heap.size+1:=(by omega)
    have Cg:w3.heap.size<w23.heap.size+1+1:=(by omega)
    have Cp:w23.cell? ⟨w3.heap.size,0,none⟩=some (Value.int .i64 p0.a):=(by rw[A0];go_simp)
    have Cq:w23.cell? ⟨w3.heap.size,1,none⟩=some (Value.int .i64 p0.b):=(by rw[A0];go_simp)
    have Cr:w23.cell? ⟨w3.heap.size,2,none⟩=some (Value.int .i64 p0.c):=(by rw[A0];go_simp)
    have Cs:w23.cell? ⟨w3.heap.size,3,none⟩=some (Value.int .i64 p1.a):=(by rw[A0];go_simp)
    have Ct:w23.cell? ⟨w3.heap.size,4,none⟩=some (Value.int .i64 p1.b):=(by rw[A0];go_simp)
    have Cu:w23.cell? ⟨w3.heap.size,5,none⟩=some (Value.int .i64 p1.c):=(by rw[A0];go_simp)
    have Cv:w23.cell? ⟨w3.heap.size,6,none⟩=some (Value.int .i64 p2.a):=(by rw[A0];go_simp)
    have Cw:w23.cell? ⟨w3.heap.size,7,none⟩=some (Value.int .i64 p2.b):=(by rw[A0];go_simp)
    have Cx:w23.cell? ⟨w3.heap.size,8,none⟩=some (Value.int .i64 p2.c):=(by rw[A0];go_simp)
    have Cy:w23.cell? ⟨w3.heap.size,9,none⟩=some (Value.int .i64 p3.a):=(by rw[A0];go_simp)
    have Bt:w23.cell? ⟨w3.heap.size,10,none⟩=some (Value.int .i64 p3.b):=(by rw[A0];go_simp)
    have Bu:w23.cell? ⟨w3.heap.size,11,none⟩=some (Value.int .i64 p3.c):=(by rw[A0];go_simp)
    have Cz:∀o,w23.frozen? ⟨w3.heap.size,o,none⟩=false:=(fun o=>by rw[A0];go_simp)
    have Au:w3.heap.size+1<w23.heap.size:=(by omega)
    have At:w3.heap.size+1<w23.heap.size+1:=(by omega)
    have As:w3.heap.size+1<w23.heap.size+1+1:=(by omega)
    have Aw:w23.cell? ⟨w3.heap.size+1,0,none⟩=some (Value.int .i64 f.a):=(by rw[A0];go_simp)
    have Az:w23.cell? ⟨w3.heap.size+1,1,none⟩=some (Value.int .i64 f.b):=(by rw[A0];go_simp)
    have B0:w23.cell? ⟨w3.heap.size+1,2,none⟩=some (Value.int .i64 f.c):=(by rw[A0];go_simp)
    have B1:∀o,w23.frozen? ⟨w3.heap.size+1,o,none⟩=false:=(fun o=>by rw[A0];go_simp)
    have Bj:w21.heap.size<w23.heap.size:=(by omega)
    have Bf:w21.heap.size<w23.heap.size+1:=(by omega)
    have Bb:w21.heap.size<w23.heap.size+1+1:=(by omega)
    have Bp:w23.cell? ⟨w21.heap.size,0,none⟩=some (Value.int .i64 Y.a):=(by rw[A0];go_simp)
    have Bv:w23.cell? ⟨w21.heap.size,1,none⟩=some (Value.int .i64 Y.b):=(by rw[A0];go_simp)
    have Bz:w23.cell? ⟨w21.heap.size,2,none⟩=some (Value.int .i64 Y.c):=(by rw[A0];go_simp)
    have Ca:∀o,w23.frozen? ⟨w21.heap.size,o,none⟩=false:=(fun o=>by rw[A0];go_simp)
    have Bk:w22.heap.size<w23.heap.size:=(by omega)
    have Bg:w22.heap.size<w23.heap.size+1:=(by omega)
    have Bc:w22.heap.size<w23.heap.size+1+1:=(by omega)
    have Bq:w23.cell? ⟨w22.heap.size,0,none⟩=some (Value.int .i64 G.a):=(by rw[A0];go_simp)
    have Bw:w23.cell? ⟨w22.heap.size,1,none⟩=some (Value.int .i64 G.b):=(by rw[A0];go_simp)
    have C0:w23.cell? ⟨w22.heap.size,2,none⟩=some (Value.int .i64 G.c):=(by rw[A0];go_simp)
    have Cb:∀o,w23.frozen? ⟨w22.heap.size,o,none⟩=false:=(fun o=>by rw[A0];go_simp)
    clear A0
    (try clear Ao Aa Ab Ah A7 A9 D5 D8 Dh)
    go_wp2_with fail
    refine turn (fun i=>i==5||i==6) 7 (by kernel_rfl) (by kernel_rfl) (St.cell (St.turn Dz (Trn.kp A4 kpw))) fun hG => ?_
    have E4:=fun o=>hG (w.heap.size) lto o (ne_addr (by omega))
    have B5:=fun o=>hG (w.heap.size+1) lto o (ne_addr (by omega))
    have B6:=fun o=>hG (w.heap.size+1+1) lto o (ne_addr (by omega))
    have Da:=fun o=>hG (w3.heap.size) lto o (ne_addr (by omega))
    have An:=fun o=>hG (w3.heap.size+1) lto o (ne_addr (by omega))
    have B3:=fun o=>hG (w21.heap.size) lto o (ne_addr (by omega))
    have B4:=fun o=>hG (w22.heap.size) lto o (ne_addr (by omega))
    have B2:=fun o=>hG B lto (o+1) ne_off
    clear hG
    simp only[List.take_succ_cons,List.take_zero,List.drop_succ_cons,List.drop_zero]
    repeat (first|(refine wpTurn_pure rfl (fun K hK => ?_);go_simp;first|(refine hK _ _ ?_;clear hK K)|(apply Exists.intro;refine⟨fun _ _ => ?_,hK _ _ ?_⟩;(first|fail);clear hK K))|(refine wpTurn_eff rfl (fun K hK => ?_);go_simp;(first|(first|with_reducible refine⟨_,_,fun _=>tur_st (St.turn Dz (Trn.kp A4 kpw)) (fun w h=>MA.out w h),?_⟩|with_reducible refine⟨_,_,fun _=>tur_rt (Rt.turn Aj (Trn.kp A4 kpw)) (fun w h=>MU.out w h),?_⟩));refine hK _ _ ?_;clear hK K))
    refine wpTurn_nil ?_
    intro w24 A1
    clear B2 E4 B5 B6 Da An B3 B4
    have B9:=A1.size_le
    (try simp at B9)
    have Ce:=tn5 A1 (w.heap.size)
    have Al:=tn5 A1 (w.heap.size+1)
    have Am:=tn5 A1 (w.heap.size+1+1)
    have Av:=tn5 A1 (w3.heap.size)
    have Ai:=tn5 A1 (w3.heap.size+1)
    have Cl:=tn5 A1 (w21.heap.size)
    have Cm:=tn5 A1 (w22.heap.size)
    have Ak:=Trn.nx A4 kpw A1
    have Ex:=Ak.le
    have D3:=Rt.turn Aj Ak
    have Af:=D3.st
    have E0:=Af.cell
    have E1:=Af.free
    have Dw:=Af.lt
    have E2:=own5 Dw
    (try clear D6 D9 Di)
    repeat (first|(with_reducible refine wp_markr 4 ?_)|go_values|go_skip|go_guarded|go_step|go_upon|(simp only[];go_simp))
    refine wp_named (fun w25 A5 => ?_)
    have Ba:=congrArg (fun w=>w.heap.size) A5
    (try simp at Ba)
    replace Ba:=Nat.le_of_eq Ba.symm
    obtain⟨G6,G4,G5,G7,G9,G8⟩:=rkn Aj Ak A5 kpw
    have Dy:=cas A5 (w.heap.size) [.int .i64 A.ix,.int .i64 A.sl,.int .i64 A.sh,.int .i64 A.po,.int .i64 A.wl,.int .i64 A.wh,.slice A.pa len A.cap,.int .i64 A.oi,.int .i64 A.ol]
    have Cn:=cas A5 (w.heap.size+1) [.int .i64 0,.int .i64 0,.int .i64 0,.int .i64 0,.int .i64 0,.int .i64 0,.int .i64 0,.int .i64 0,.int .i64 0,.int .i64 0,.int .i64 0,.int .i64 0]
    have Co:=cas A5 (w.heap.size+1+1) [.int .i64 0,.int .i64 0,.int .i64 0]
    have Df:=cas A5 (w3.heap.size) [.int .i64 n0.a,.int .i64 n0.b,.int .i64 n0.c,.int .i64 n1.a,.int .i64 n1.b,.int .i64 n1.c,.int .i64 n2.a,.int .i64 n2.b,.int .i64 n2.c,.int .i64 n3.a,.int .i64 n3.b,.int .i64 n3.c]
    have Bo:=cas A5 (w3.heap.size+1) [.int .i64 f.a,.int .i64 f.b,.int .i64 f.c]
    simp only[CAf,Nat.reduceAdd,and_true]at Dy Cn Co Df Bo
    clear A5
    (try clear Ce Al Am Av Ai E0 E1 E2)
    go_wp2_with fail
    go_roundw
    case rel=>exact⟨k+1,n0,n1,n2,n3,f,EN,by omega,by first|(simp;done)|(simp;omega),fn.out,HT'.out,trw,by first|assumption|omega|(simp;done)|(simp;omega),by go_simp,by go_simp,by go_simp,by go_simp,by go_simp,by go_simp,by go_simp,by go_simp,by go_simp,fun o=>by go_simp,by go_simp,by go_simp,by go_simp,by go_simp,by go_simp,by go_simp,by go_simp,by go_simp,by go_simp,by go_simp,by go_simp,by go_simp,fun o=>by go_simp,by go_simp,by go_simp,by go_simp,fun o=>by go_simp,by go_simp,by go_simp,by go_simp,by go_simp,by go_simp,by go_simp,by go_simp,by go_simp,by go_simp,by go_simp,by go_simp,by go_simp,fun o=>by go_simp,by go_simp,by go_simp,by go_simp,fun o=>by go_simp⟩
    case measure=>simp[intOf];omega
   ·have hTq:T.q=EN:=by
     by_cases hq:q=0
     ·have h:=HT;unfold HidT at h;rw[run_step hq hb,ST,run_done (.inl hE)]at h;rw[← h]
     ·have h:=HT;unfold HidT at h;rw[run_done (.inl hq)]at h;rw[← h];exact(hbad hq).symm
    have hE1:(EN != 0)=true:=by simpa using hE
    have RET:=fun w' (t:Trn B EN w w')=>allRet_bad (T:=T) (B:=B) (w:=w) (w':=w') (by rw[hTq];exact hE) (by rw[hTq];exact t)
    have RET:=Lib.hid RET
    clear HT ST hm hn hM fm hb hE hbad hTq
    go_wp2_with fail
    refine(AD.out _ (Rt.turn Aj (Trn.kp Cf kpw))).mono ?_
    rintro e w21 ⟨rfl,A3⟩
    have B7:=A3.size_le
    (try simp at B7)
    have Dx:=tn5 A3 (w.heap.size)
    have Cj:=tn5 A3 (w.heap.size+1)
    have Ck:=tn5 A3 (w.heap.size+1+1)
    have De:=tn5 A3 (w3.heap.size)
    have Bn:=tn5 A3 (w3.heap.size+1)
    have A8:=Trn.nx Cf kpw A3
    have Eu:=A8.le
    have D0:=Rt.turn Aj A8
    have Ac:=D0.st
    have D4:=Ac.cell
    have D7:=Ac.free
    have Dt:=Ac.lt
    have Dg:=own5 Dt
    (try clear Es Et F7)
    go_wp2_with fail
    refine(FA.out _ (Rt.turn Aj (Trn.kp A8 kpw))).mono ?_
    rintro e w22 ⟨rfl,A2⟩
    have B8:=A2.size_le
    (try simp at B8)
    have Ao:=tn5 A2 (w.heap.size)
    have Aa:=tn5 A2 (w.heap.size+1)
    have Ab:=tn5 A2 (w.heap.size+1+1)
    have Ah:=tn5 A2 (w3.heap.size)
    have A7:=tn5 A2 (w3.heap.size+1)
    have A9:=tn5 A2 (w21.heap.size)
    have Ag:=Trn.nx A8 kpw A2
    have Ev:=Ag.le
    have D1:=Rt.turn Aj Ag
    have Ad:=D1.st
    have D5:=Ad.cell
    have D8:=Ad.free
    have Du:=Ad.lt
    have Dh:=own5 Du
    (try clear D4 D7 Dg)
    repeat (first|(with_reducible refine wp_markr 9 ?_)|go_values|go_skip|go_guarded|go_step|go_upon|(simp only[];go_simp))
    refine wp_named (fun w23 A0 => ?_)
    have A6:=congrArg (fun w=>w.heap.size) A0
    (try simp at A6)
    replace A6:=Nat.le_of_eq A6.symm
    have A4:=Trn.kp Ag (show Kp w.heap.size w22 w23 from A0▸kpw)
    have Ew:=A4.le
    have D2:=Rt.turn Aj A4
    have Ae:=D2.st
    have D6:=Ae.cell
    have D9:=Ae.free
    have Dv:=Ae.lt
    have Di:=own5 Dv
    have Dd:w.heap.size<w23.heap.size:=(by omega)
    have Dc:w.heap.size<w23.heap.size+1:=(by omega)
    have Db:w.heap.size<w23.heap.size+1+1:=(by omega)
    have Dj:w23.cell? ⟨w.heap.size,0,none⟩=some (Value.int .i64 A.ix):=(by rw[A0];go_simp)
    have Dk:w23.cell? ⟨w.heap.size,1,none⟩=some (Value.int .i64 A.sl):=(by rw[A0];go_simp)
    have Dl:w23.cell? ⟨w.heap.size,2,none⟩=some (Value.int .i64 A.sh):=(by rw[A0];go_simp)
    have Dm:w23.cell? ⟨w.heap.size,3,none⟩=some (Value.int .i64 A.po):=(by rw[A0];go_simp)
    have Dn:w23.cell? ⟨w.heap.size,4,none⟩=some (Value.int .i64 A.wl):=(by rw[A0];go_simp)
    have Do:w23.cell? ⟨w.heap.size,5,none⟩=some (Value.int .i64 A.wh):=(by rw[A0];go_simp)
    have Dp:w23.cell? ⟨w.heap.size,6,none⟩=some (Value.slice A.pa len A.cap):=(by rw[A0];go_simp)
    have Dq:w23.cell? ⟨w.heap.size,7,none⟩=some (Value.int .i64 A.oi):=(by rw[A0];go_simp)
    have Dr:w23.cell? ⟨w.heap.size,8,none⟩=some (Value.int .i64 A.ol):=(by rw[A0];go_simp)
    have Ds:∀o,w23.frozen? ⟨w.heap.size,o,none⟩=false:=(fun o=>by rw[A0];go_simp)
    have Bl:w.heap.size+1<w23.heap.size:=(by omega)
    have Bh:w.heap.size+1<w23.heap.size+1:=(by omega)
    have Bd:w.heap.size+1<w23.heap.size+1+1:=(by omega)
    have Br:w23.cell? ⟨w.heap.size+1,0,none⟩=some (Value.int .i64 0):=(by rw[A0];go_simp)
    have Bx:w23.cell? ⟨w.heap.size+1,1,none⟩=some (Value.int .i64 0):=(by rw[A0];go_simp)
    have C1:w23.cell? ⟨w.heap.size+1,2,none⟩=some (Value.int .i64 0):=(by rw[A0];go_simp)
    have C3:w23.cell? ⟨w.heap.size+1,3,none⟩=some (Value.int .i64 0):=(by rw[A0];go_simp)
    have C4:w23.cell? ⟨w.heap.size+1,4,none⟩=some (Value.int .i64 0):=(by rw[A0];go_simp)
    have C5:w23.cell? ⟨w.heap.size+1,5,none⟩=some (Value.int .i64 0):=(by rw[A0];go_simp)
    have C6:w23.cell? ⟨w.heap.size+1,6,none⟩=some (Value.int .i64 0):=(by rw[A0];go_simp)
    have C7:w23.cell? ⟨w.heap.size+1,7,none⟩=some (Value.int .i64 0):=(by rw[A0];go_simp)
    have C8:w23.cell? ⟨w.heap.size+1,8,none⟩=some (Value.int .i64 0):=(by rw[A0];go_simp)
    have C9:w23.cell? ⟨w.heap.size+1,9,none⟩=some (Value.int .i64 0):=(by rw[A0];go_simp)
    have Ax:w23.cell? ⟨w.heap.size+1,10,none⟩=some (Value.int .i64 0):=(by rw[A0];go_simp)
    have Ay:w23.cell? ⟨w.heap.size+1,11,none⟩=some (Value.int .i64 0):=(by rw[A0];go_simp)
    have Cc:∀o,w23.frozen? ⟨w.heap.size+1,o,none⟩=false:=(fun o=>by rw[A0];go_simp)
    have Bm:w.heap.size+1+1<w23.heap.size:=(by omega)
    have Bi:w.heap.size+1+1<w23.heap.size+1:=(by omega)
    have Be:w.heap.size+1+1<w23.heap.size+1+1:=(by omega)
    have Bs:w23.cell? ⟨w.heap.size+1+1,0,none⟩=some (Value.int .i64 0):=(by rw[A0];go_simp)
    have By:w23.cell? ⟨w.heap.size+1+1,1,none⟩=some (Value.int .i64 0):=(by rw[A0];go_simp)
    have C2:w23.cell? ⟨w.heap.size+1+1,2,none⟩=some (Value.int .i64 0):=(by rw[A0];go_simp)
    have Cd:∀o,w23.frozen? ⟨w.heap.size+1+1,o,none⟩=false:=(fun o=>by rw[A0];go_simp)
    have Ci:w3.heap.size<w23.heap.size:=(by omega)
    have Ch:w3.heap.size<w23.heap.size+1:=(by omega)
    have Cg:w3.heap.size<w23.heap.size+1+1:=(by omega)
    have Cp:w23.cell? ⟨w3.heap.size,0,none⟩=some (Value.int .i64 p0.a):=(by rw[A0];go_simp)
    have Cq:w23.cell? ⟨w3.heap.size,1,none⟩=some (Value.int .i64 p0.b):=(by rw[A0];go_simp)
    have Cr:w23.cell? ⟨w3.heap.size,2,none⟩=some (Value.int .i64 p0.c):=(by rw[A0];go_simp)
    have Cs:w23.cell? ⟨w3.heap.size,3,none⟩=some (Value.int .i64 p1.a):=(by rw[A0];go_simp)
    have Ct:w23.cell? ⟨w3.heap.size,4,none⟩=some (Value.int .i64 p1.b):=(by rw[A0];go_simp)
    have Cu:w23.cell? ⟨w3.heap.size,5,none⟩=some (Value.int .i64 p1.c):=(by rw[A0];go_simp)
    have Cv:w23.cell? ⟨w3.heap.size,6,none⟩=some (Value.int .i64 p2.a):=(by rw[A0];go_simp)
    have Cw:w23.cell? ⟨w3.heap.size,7,none⟩=some (Value.int .i64 p2.b):=(by rw[A0];go_simp)
    have Cx:w23.cell? ⟨w3.heap.size,8,none⟩=some (Value.int .i64 p2.c):=(by rw[A0];go_simp)
    have Cy:w23.cell? ⟨w3.heap.size,9,none⟩=some (Value.int .i64 p3.a):=(by rw[A0];go_simp)
    have Bt:w23.cell? ⟨w3.heap.size,10,none⟩=some (Value.int .i64 p3.b):=(by rw[A0];go_simp)
    have Bu:w23.cell? ⟨w3.heap.size,11,none⟩=some (Value.int .i64 p3.c):=(by rw[A0];go_simp)
    have Cz:∀o,w23.frozen? ⟨w3.heap.size,o,none⟩=false:=(fun o=>by rw[A0];go_simp)
    have Au:w3.heap.size+1<w23.heap.size:=(by omega)
    have At:w3.heap.size+1<w23.heap.size+1:=(by omega)
    have As:w3.heap.size+1<w23.heap.size+1+1:=(by omega)
    have Aw:w23.cell? ⟨w3.heap.size+1,0,none⟩=some (Value.int .i64 f.a):=(by rw[A0];go_simp)
    have Az:w23.cell? ⟨w3.heap.size+1,1,none⟩=some (Value.int .i64 f.b):=(by rw[A0];go_simp)
    have B0:w23.cell? ⟨w3.heap.size+1,2,none⟩=some (Value.int .i64 f.c):=(by rw[A0];go_simp)
    have B1:∀o,w23.frozen? ⟨w3.heap.size+1,o,none⟩=false:=(fun o=>by rw[A0];go_simp)
    have Bj:w21.heap.size<w23.heap.size:=(by omega)
    have Bf:w21.heap.size<w23.heap.size+1:=(by omega)
    have Bb:w21.heap.size<w23.heap.size+1+1:=(by omega)
    have Bp:w23.cell? ⟨w21.heap.size,0,none⟩=some (Value.int .i64 Y.a):=(by rw[A0];go_simp)
    have Bv:w23.cell? ⟨w21.heap.size,1,none⟩=some (Value.int .i64 Y.b):=(by rw[A0];go_simp)
    have Bz:w23.cell? ⟨w21.heap.size,2,none⟩=some (Value.int .i64 Y.c):=(by rw[A0];go_simp)
    have Ca:∀o,w23.frozen? ⟨w21.heap.size,o,none⟩=false:=(fun o=>by rw[A0];go_simp)
    have Bk:w22.heap.size<w23.heap.size:=(by omega)
    have Bg:w22.heap.size<w23.heap.size+1:=(by omega)
    have Bc:w22.heap.size<w23.heap.size+1+1:=(by omega)
    have Bq:w23.cell? ⟨w22.heap.size,0,none⟩=some (Value.int .i64 G.a):=(by rw[A0];go_simp)
    have Bw:w23.cell? ⟨w22.heap.size,1,none⟩=some (Value.int .i64 G.b):=(by rw[A0];go_simp)
    have C0:w23.cell? ⟨w22.heap.size,2,none⟩=some (Value.int .i64 G.c):=(by rw[A0];go_simp)
    have Cb:∀o,w23.frozen? ⟨w22.heap.size,o,none⟩=false:=(fun o=>by rw[A0];go_simp)
    clear A0
    (try clear Ao Aa Ab Ah A7 A9 D5 D8 Dh)
    go_wp2_with fail
    refine turn (fun i=>i==5||i==6) 7 (by kernel_rfl) (by kernel_rfl) (St.cell (St.turn Dz (Trn.kp A4 kpw))) fun hG => ?_
    have E4:=fun o=>hG (w.heap.size) lto o (ne_addr (by omega))
    have B5:=fun o=>hG (w.heap.size+1) lto o (ne_addr (by omega))
    have B6:=fun o=>hG (w.heap.size+1+1) lto o (ne_addr (by omega))
    have Da:=fun o=>hG (w3.heap.size) lto o (ne_addr (by omega))
    have An:=fun o=>hG (w3.heap.size+1) lto o (ne_addr (by omega))
    have B3:=fun o=>hG (w21.heap.size) lto o (ne_addr (by omega))
    have B4:=fun o=>hG (w22.heap.size) lto o (ne_addr (by omega))
    have B2:=fun o=>hG B lto (o+1) ne_off
    clear hG
    simp only[List.take_succ_cons,List.take_zero,List.drop_succ_cons,List.drop_zero]
    repeat (first|(refine wpTurn_pure rfl (fun K hK => ?_);go_simp;first|(refine hK _ _ ?_;clear hK K)|(apply Exists.intro;refine⟨fun _ _ => ?_,hK _ _ ?_⟩;(first|fail);clear hK K))|(refine wpTurn_eff rfl (fun K hK => ?_);go_simp;(first|(first|with_reducible refine⟨_,_,fun _=>tur_st (St.turn Dz (Trn.kp A4 kpw)) (fun w h=>MA.out w h),?_⟩|with_reducible refine⟨_,_,fun _=>tur_rt (Rt.turn Aj (Trn.kp A4 kpw)) (fun w h=>MU.out w h),?_⟩));refine hK _ _ ?_;clear hK K))
    refine wpTurn_nil ?_
    intro w24 A1
    clear B2 E4 B5 B6 Da An B3 B4
    have B9:=A1.size_le
    (try simp at B9)
    have Ce:=tn5 A1 (w.heap.size)
    have Al:=tn5 A1 (w.heap.size+1)
    have Am:=tn5 A1 (w.heap.size+1+1)
    have Av:=tn5 A1 (w3.heap.size)
    have Ai:=tn5 A1 (w3.heap.size+1)
    have Cl:=tn5 A1 (w21.heap.size)
    have Cm:=tn5 A1 (w22.heap.size)
    have Ak:=Trn.nx A4 kpw A1
    have Ex:=Ak.le
    have D3:=Rt.turn Aj Ak
    have Af:=D3.st
    have E0:=Af.cell
    have E1:=Af.free
    have Dw:=Af.lt
    have E2:=own5 Dw
    (try clear D6 D9 Di)
    repeat' (first|go_values|go_skip|go_guarded|go_step|go_upon|(simp only[];go_simp))
    refine bodyPost_ret (by simp[results,Tryz.results176,go_sem, *];first|done|rfl) rfl ?_
    exact RET.out _ trw
  ·have hc1:¬((k:Int)+1≤len):=by omega
   have hT':(⟨⟨p0,p1,p2,p3⟩,f,q⟩:Thr)=T:=(run_done (.inr (List.drop_eq_nil_of_le (by omega)))).symm.trans HT
   have RET:=fun w' (t:Trn B q w w')=>allRet_ok (T:=⟨⟨p0,p1,p2,p3⟩,f,q⟩) (B:=B) (w:=w) (w':=w') f fp t
   simp only[Mat.ints]at RET
   have RET:=Lib.hid RET
   subst hT'
   clear HT
   go_wp2_with fail
   go_region_held3 (fun w'=>w'.cell? ⟨w3.heap.size,0,none⟩=some (Value.int .i64 p0.a)∧w'.cell? ⟨w3.heap.size,1,none⟩=some (Value.int .i64 p0.b)∧w'.cell? ⟨w3.heap.size,2,none⟩=some (Value.int .i64 p0.c)∧w'.cell? ⟨w3.heap.size,3,none⟩=some (Value.int .i64 p1.a)∧w'.cell? ⟨w3.heap.size,4,none⟩=some (Value.int .i64 p1.b)∧w'.cell? ⟨w3.heap.size,5,none⟩=some (Value.int .i64 p1.c)∧w'.cell? ⟨w3.heap.size,6,none⟩=some (Value.int .i64 p2.a)∧w'.cell? ⟨w3.heap.size,7,none⟩=some (Value.int .i64 p2.b)∧w'.cell? ⟨w3.heap.size,8,none⟩=some (Value.int .i64 p2.c)∧w'.cell? ⟨w3.heap.size,9,none⟩=some (Value.int .i64 p3.a)∧w'.cell? ⟨w3.heap.size,10,none⟩=some (Value.int .i64 p3.b)∧w'.cell? ⟨w3.heap.size,11,none⟩=some (Value.int .i64 p3.c)∧w'.cell? ⟨w3.heap.size+1,0,none⟩=some (Value.int .i64 f.a)∧w'.cell? ⟨w3.heap.size+1,1,none⟩=some (Value.int .i64 f.b)∧w'.cell? ⟨w3.heap.size+1,2,none⟩=some (Value.int .i64 f.c)) (simp[*,go_sem]) (fail)
   repeat' (first|go_values|go_skip|go_guarded|go_step|go_upon|(simp only[];go_simp))
   refine bodyPost_ret (by simp[results,Tryz.results176,go_sem, *];first|done|rfl) rfl ?_
   exact RET.out _ trw
end Go.Proofs.YtjbfaaolfonmaaaGreat
