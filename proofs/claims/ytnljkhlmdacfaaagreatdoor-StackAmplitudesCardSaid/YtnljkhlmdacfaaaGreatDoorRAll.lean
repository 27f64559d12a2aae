/- The product of all layers: the reference's walk. -/
import Derived.Test.YtnljkhlmdacfaaaGreatDoorKRc
import Derived.Test.YtnljkhlmdacfaaaGreatDoorKRa
import Derived.Test.YtnljkhlmdacfaaaGreatDoorRProd
import Derived.Test.YtnljkhlmdacfaaaGreatDoorKThr
namespace Go.Proofs.YtnljkhlmdacfaaaGreatDoor
open Go Go.Sort Go.RowKit
theorem adm_bad {e:Int}{A:Ask}{b:Box} (h:e≠0):(admR e A b).q=e:=by
 have h1:nsqR e A b = .bad e:=by unfold nsqR;simp only[idx_bad h,res_bad_q,after_err _ h]
 have h2:norR e A b = .bad e:=by unfold norR;simp only[h1,res_bad_q,after_err _ h]
 by_cases hp:A.po=0
 ·rw[adm_refs hp,h2,res_bad_q]
 ·rw[adm_ref hp,h2,res_bad_q,after_err _ h,res_bad_q]
theorem fac_bad0 {e:Int}{A:Ask}{b:Box}{n:Int} (h:e≠0):(facR e A b n).q=e:=by
 have h1:nsqR e A b = .bad e:=by unfold nsqR;simp only[idx_bad h,res_bad_q,after_err _ h]
 have h2:norR e A b = .bad e:=by unfold norR;simp only[h1,res_bad_q,after_err _ h]
 have h3:¬(norR e A b).q=0:=by rw[h2,res_bad_q];exact h
 rw[fac_bad h3,res_bad_q,h2,res_bad_q]
theorem mat_bad {e:Int}{y g:Res} (h:e≠0):(matR e y g).2=e:=by
 unfold matR;simp only[after_err _ h,res_bad_q]
theorem mul_bad {e:Int}{p m:Mat} (h:e≠0):(mulR e p m).2=e:=by
 unfold mulR dotR;simp only[after_err _ h,res_bad_q]
theorem step_bad {A:Ask}{s:Thr}{b:Box} (h:s.q≠0):(stepR A false s b).q=s.q:=by
 unfold stepR
 simp[adm_bad h,fac_bad0 h,mat_bad h,mul_bad h]
def AllRet (e:Int) (T:Thr) (B:Nat) (w:World) (E:Ending) (w':World):Prop:=∃(p:Mat) (f:Res),E = .returned (.tuple #[.agg p.ints,.agg #[.int .i64 f.a,.int .i64 f.b,.int .i64 f.c]])∧p.fine∧(T.q=0→p=T.p)∧(e=0→¬T.q=0→p=⟨noneR,noneR,noneR,noneR⟩)∧Trn B T.q w w'
theorem allRet_bad {e:Int}{T:Thr}{B:Nat}{w w':World} (h:T.q≠0) (t:Trn B T.q w w'):AllRet e T B w (.returned (.tuple #[.agg #[.int .i64 0,.int .i64 0,.int .i64 0,.int .i64 0,.int .i64 0,.int .i64 0,.int .i64 0,.int .i64 0,.int .i64 0,.int .i64 0,.int .i64 0,.int .i64 0],.agg #[.int .i64 0,.int .i64 0,.int .i64 0]])) w':=by
 obtain⟨z1,z2,z3⟩:noneR.a=0∧noneR.b=0∧noneR.c=0:=by unfold noneR;exact⟨(quad_good _ _ _).1,(quad_good _ _ _).2.1,(quad_good _ _ _).2.2.1⟩
 refine⟨⟨noneR,noneR,noneR,noneR⟩,noneR,?_,⟨fine_noneR,fine_noneR,fine_noneR,fine_noneR⟩,fun h0=>absurd h0 h,fun _ _=>rfl,t⟩
 simp only[Mat.ints,z1,z2,z3]
theorem allRet_ok {e:Int}{T:Thr}{B:Nat}{w w':World} (f:Res) (hf:T.p.fine) (he:e=0→T.q=0) (t:Trn B T.q w w'):AllRet e T B w (.returned (.tuple #[.agg T.p.ints,.agg #[.int .i64 f.a,.int .i64 f.b,.int .i64 f.c]])) w':=⟨T.p,f,rfl,hf,fun _=>rfl,fun a b=>absurd (he a) b,t⟩
structure Ats (w:World) (b:Nat) (vs:Array Value):Prop where
 cell:∀(j:Nat) (h:j<vs.size),w.cell? ⟨b,j,none⟩=some vs[j]
 fr:∀o,w.frozen? ⟨b,o,none⟩=false
set_option maxRecDepth 100000 in
set_option maxHeartbeats 8000000 in
theorem r_all (B:Nat) (e:Int) (A:Ask) (hA:AskOk A) (T:Thr) (hT:HidT A false ⟨⟨oneR,noneR,noneR,oneR⟩,oneR,e⟩ T 0) (w:World) (Af:Rt B e A w) :
  Calls Tryz.prog 102 #[.pointer (some ⟨B,0,none⟩),A.val,.bool false] w fun E w'=>AllRet e T B w E w':=by
 have hlen:=hA.len
 obtain⟨z1,z2,z3⟩:noneR.a=0∧noneR.b=0∧noneR.c=0:=by unfold noneR;exact⟨(quad_good _ _ _).1,(quad_good _ _ _).2.1,(quad_good _ _ _).2.2.1⟩
 unfold Ask.val
 have Bi:=Af.st
 have Ee:=tr_refl Bi
 have Eg:=Bi.cell
 have Eh:=Bi.free
 have Eo:=Bi.lt
 have Ep:=own5 Eo
 go_enter Tryz.func102,Tryz.ntmps102
 go_wp2_with fail
 refine(r_one _).mono ?_
 rintro e w1 ⟨rfl,A5⟩
 have C7:=A5.size
 (try simp at C7)
 have Dg:=bl5 A5 (w.heap.size)
 have Ca:=bl5 A5 (w.heap.size+1)
 have Cb:=bl5 A5 (w.heap.size+1+1)
 obtain⟨Da,E8,Eb,Ei,Dk,Df⟩:=rkb Af Ee kpw A5
 (try clear Eg Eh)
 go_wp2_with fail
 refine(r_one _).mono ?_
 rintro e w2 ⟨rfl,A6⟩
 have C8:=A6.size
 (try simp at C8)
 have Di:=bl5 A6 (w.heap.size)
 have Ch:=bl5 A6 (w.heap.size+1)
 have Ci:=bl5 A6 (w.heap.size+1+1)
 obtain⟨Db,E9,Ec,Ej,Dl,Dh⟩:=rkb Af Da kpw A6
 (try clear Df Dk)
 go_wp2_with fail
 refine(r_one _).mono ?_
 rintro e w3 ⟨rfl,A7⟩
 have C9:=A7.size
 (try simp at C9)
 have Dj:=bl5 A7 (w.heap.size)
 have Cj:=bl5 A7 (w.heap.size+1)
 have Ck:=bl5 A7 (w.heap.size+1+1)
 obtain⟨Ef,Ea,Ed,Ek,En,Em⟩:=rkb Af Db kpw A7
 (try clear Dh Dl)
 go_wp2_with fail
 go_loopw [10] (fun i wr=>∃(k:Nat) (p0 p1 p2 p3 f:Res) (q:Int),k≤A.ls.length∧i = .int .i64 (k+1)∧(⟨p0,p1,p2,p3⟩:Mat).fine∧HidT A false ⟨⟨p0,p1,p2,p3⟩,f,q⟩ T k∧(e=0→q=0)∧Trn B q w wr∧w3.heap.size+1<wr.heap.size∧wr.cell? ⟨w.heap.size,0,none⟩=some (Value.int .i64 A.ix)∧wr.cell? ⟨w.heap.size,1,none⟩=some (Value.int .i64 A.sl)∧wr.cell? ⟨w.heap.size,2,none⟩=some (Value.int .i64 A.sh)∧wr.cell? ⟨w.heap.size,3,none⟩=some (Value.int .i64 A.po)∧wr.cell? ⟨w.heap.size,4,none⟩=some (Value.int .i64 A.wl)∧wr.cell? ⟨w.heap.size,5,none⟩=some (Value.int .i64 A.wh)∧wr.cell? ⟨w.heap.size,6,none⟩=some (Value.slice A.pa A.ls.length A.cap)∧wr.cell? ⟨w.heap.size,7,none⟩=some (Value.int .i64 A.oi)∧wr.cell? ⟨w.heap.size,8,none⟩=some (Value.int .i64 A.ol)∧(∀o,wr.frozen? ⟨w.heap.size,o,none⟩=false)∧wr.cell? ⟨w.heap.size+1,0,none⟩=some (Value.int .i64 0)∧wr.cell? ⟨w.heap.size+1,1,none⟩=some (Value.int .i64 0)∧wr.cell? ⟨w.heap.size+1,2,none⟩=some (Value.int .i64 0)∧wr.cell? ⟨w.heap.size+1,3,none⟩=some (Value.int .i64 0)∧wr.cell? ⟨w.heap.size+1,4,none⟩=some (Value.int .i64 0)∧wr.cell? ⟨w.heap.size+1,5,none⟩=some (Value.int .i64 0)∧wr.cell? ⟨w.heap.size+1,6,none⟩=some (Value.int .i64 0)∧wr.cell? ⟨w.heap.size+1,7,none⟩=some (Value.int .i64 0)∧wr.cell? ⟨w.heap.size+1,8,none⟩=some (Value.int .i64 0)∧wr.cell? ⟨w.heap.size+1,9,none⟩=some (Value.int .i64 0)∧wr.cell? ⟨w.heap.size+1,10,none⟩=some (Value.int .i64 0)∧wr.cell? ⟨w.heap.size+1,11,none⟩=some (Value.int .i64 0)∧(∀o,wr.frozen? ⟨w.heap.size+1,o,none⟩=false)∧wr.cell? ⟨w.heap.size+1+1,0,none⟩=some (Value.int .i64 0)∧wr.cell? ⟨w.heap.size+1+1,1,none⟩=some (Value.int .i64 0)∧wr.cell? ⟨w.heap.size+1+1,2,none⟩=some (Value.int .i64 0)∧(∀o,wr.frozen? ⟨w.heap.size+1+1,o,none⟩=false)∧wr.cell? ⟨w3.heap.size,0,none⟩=some (Value.int .i64 p0.a)∧wr.cell? ⟨w3.heap.size,1,none⟩=some (Value.int .i64 p0.b)∧wr.cell? ⟨w3.heap.size,2,none⟩=some (Value.int .i64 p0.c)∧wr.cell? ⟨w3.heap.size,3,none⟩=some (Value.int .i64 p1.a)∧wr.cell? ⟨w3.heap.size,4,none⟩=some (Value.int .i64 p1.b)∧wr.cell? ⟨w3.heap.size,5,none⟩=some (Value.int .i64 p1.c)∧wr.cell? ⟨w3.heap.size,6,none⟩=some (Value.int .i64 p2.a)∧wr.cell? ⟨w3.heap.size,7,none⟩=some (Value.int .i64 p2.b)∧wr.cell? ⟨w3.heap.size,8,none⟩=some (Value.int .i64 p2.c)∧wr.cell? ⟨w3.heap.size,9,none⟩=some (Value.int .i64 p3.a)∧wr.cell? ⟨w3.heap.size,10,none⟩=some (Value.int .i64 p3.b)∧wr.cell? ⟨w3.heap.size,11,none⟩=some (Value.int .i64 p3.c)∧(∀o,wr.frozen? ⟨w3.heap.size,o,none⟩=false)∧wr.cell? ⟨w3.heap.size+1,0,none⟩=some (Value.int .i64 f.a)∧wr.cell? ⟨w3.heap.size+1,1,none⟩=some (Value.int .i64 f.b)∧wr.cell? ⟨w3.heap.size+1,2,none⟩=some (Value.int .i64 f.c)∧(∀o,wr.frozen? ⟨w3.heap.size+1,o,none⟩=false)) (fun i _=>A.ls.length+2-(intOf i).toNat)
 case atStart=>exact⟨0,oneR,noneR,noneR,oneR,oneR,e,by omega,rfl,ones,hT,fun h=>h,trw,by first|omega|(simp;done)|(simp;omega),by go_simp,by go_simp,by go_simp,by go_simp,by go_simp,by go_simp,by go_simp,by go_simp,by go_simp,fun o=>by go_simp,by go_simp,by go_simp,by go_simp,by go_simp,by go_simp,by go_simp,by go_simp,by go_simp,by go_simp,by go_simp,by go_simp,by go_simp,fun o=>by go_simp,by go_simp,by go_simp,by go_simp,fun o=>by go_simp,by go_simp,by go_simp,by go_simp,by go_simp,by go_simp,by go_simp,by go_simp,by go_simp,by go_simp,by go_simp,by go_simp,by go_simp,fun o=>by go_simp,by go_simp,by go_simp,by go_simp,fun o=>by go_simp⟩
 case round =>
  obtain⟨k,p0,p1,p2,p3,f,q,hk,rfl,fp,HT,he0q,Av,hsz,Cz,D0,D1,D2,D3,D4,D5,D6,D7,D8,Bn,Br,Bt,Bv,Bw,Bx,By,Bz,C0,C1,Bd,Be,C2,Bo,Bs,Bu,C3,Cn,Co,Cp,Cq,Cr,Cs,Ct,Cu,Cv,Cw,Bp,Bq,Cx,Bc,Bf,Bg,Bh⟩:=hrel
  clear hT z1 z2 z3
  have hd0:¬w.heap.size=w3.heap.size:=by omega
  have he0:¬w3.heap.size=w.heap.size:=by omega
  have hd1:¬w.heap.size=w3.heap.size+1:=by omega
  have he1:¬w3.heap.size+1=w.heap.size:=by omega
  have hd2:¬w.heap.size+1=w3.heap.size:=by omega
  have he2:¬w3.heap.size=w.heap.size+1:=by omega
  have hd3:¬w.heap.size+1=w3.heap.size+1:=by omega
  have he3:¬w3.heap.size+1=w.heap.size+1:=by omega
  have hd4:¬w.heap.size+1+1=w3.heap.size:=by omega
  have he4:¬w3.heap.size=w.heap.size+1+1:=by omega
  have hd5:¬w.heap.size+1+1=w3.heap.size+1:=by omega
  have he5:¬w3.heap.size+1=w.heap.size+1+1:=by omega
  have El:=Av.le
  have D9:=Rt.turn Af Av
  have B2:=D9.st
  have Dc:=B2.cell
  have Dd:=B2.free
  have Dn:=B2.lt
  have Dm:=own5 Dn
  generalize hln:A.ls.length=len at *
  by_cases hlt:k<len
  ·have hc1:((k:Int)+1≤len):=by omega
   obtain⟨b,hb⟩:∃b,A.ls[k]?=some b:=⟨_,List.getElem?_eq_getElem (by omega)⟩
   have hM:RMed A ((k:Int)+1) b:=rmed_layer A hA k b hb
   obtain⟨Y,hY⟩:=is_ex (admR q A b)
   have fY:Fine Y:=hY.fine (fine_adm _ _ _)
   obtain⟨G,hG⟩:=is_ex (facR Y.q A b 2)
   have fG:Fine G:=hG.fine (fine_fac _ _ _ _)
   have AD:=(r_adm B q A ((k:Int)+1) b hA hM).to hY
   have FA:=(r_factor2 B Y.q A ((k:Int)+1) b hA hM).to hG
   have MA:=fun w S=>r_matrix B G.q Y G fY fG w S
   have fm:=mat_fine G.q Y G
   have ST:=step_no (s:=⟨⟨p0,p1,p2,p3⟩,f,q⟩) hY hG
   generalize hm:matR G.q Y G=M at *
   obtain⟨⟨m0,m1,m2,m3⟩,EM⟩:=M
   have MU:=fun w L=>r_product B EM ⟨p0,p1,p2,p3⟩ ⟨m0,m1,m2,m3⟩ fp fm A w L
   have fn:=mul_fine EM ⟨p0,p1,p2,p3⟩ ⟨m0,m1,m2,m3⟩
   simp only at ST
   generalize hn:mulR EM ⟨p0,p1,p2,p3⟩ ⟨m0,m1,m2,m3⟩=N at *
   obtain⟨⟨n0,n1,n2,n3⟩,EN⟩:=N
   simp only[Mat.ints]at MA MU ST fn
   have hbad:q≠0→EN=q:=fun h=>by have:=step_bad (A:=A) (s:=⟨⟨p0,p1,p2,p3⟩,f,q⟩) (b:=b) h;rw[ST]at this;exact this
   unfold RLG Ask.val at AD FA
   rw[hln]at AD FA
   have AD:=Lib.hid AD
   have FA:=Lib.hid FA
   have MA:=Lib.hid MA
   have MU:=Lib.hid MU
   have HT2:=Lib.hid (show EN=0→HidT A false ⟨⟨n0,n1,n2,n3⟩,f,EN⟩ T (k+1)from fun hE=>by
    have hq:q=0:=Classical.byContradiction fun h=>by have:=hbad h;omega
    have h:=HT
    unfold HidT at h ⊢
    rw[run_step hq hb,ST]at h
    exact h)
   have RET:=Lib.hid (fun(hE:¬EN=0) w' (t:Trn B EN w w')=>allRet_bad (e:=e) (T:=T) (B:=B) (w:=w) (w':=w') (by
    have hTq:T.q=EN:=by
     by_cases hq:q=0
     ·have h:=HT;unfold HidT at h;rw[run_step hq hb,ST,run_done (.inl hE)]at h;rw[← h]
     ·have h:=HT;unfold HidT at h;rw[run_done (.inl hq)]at h;rw[← h];exact(hbad hq).symm
    rw[hTq];exact hE) (by
    have hTq:T.q=EN:=by
     by_cases hq:q=0
     ·have h:=HT;unfold HidT at h;rw[run_step hq hb,ST,run_done (.inl hE)]at h;rw[← h]
     ·have h:=HT;unfold HidT at h;rw[run_done (.inl hq)]at h;rw[← h];exact(hbad hq).symm
    rw[hTq];exact t))
   have fn:=Lib.hid fn
   clear HT ST hm hn hM fm hb hbad he0q
   go_wp2_with fail
   refine(AD.out _ (Rt.turn Af (Trn.kp Av kpw))).mono ?_
   rintro e w21 ⟨rfl,A4⟩
   have B8:=A4.size_le
   (try simp at B8)
   have Cy:=tn5 A4 (w.heap.size)
   have Bj:=tn5 A4 (w.heap.size+1)
   have Bk:=tn5 A4 (w.heap.size+1+1)
   have Cd:=tn5 A4 (w3.heap.size)
   have Bb:=tn5 A4 (w3.heap.size+1)
   obtain⟨B1,Do,Dt,Dz,E5,Cc⟩:=rkx Af Av kpw A4
   (try clear Dc Dd Dm)
   go_wp2_with fail
   refine(FA.out _ (Rt.turn Af (Trn.kp B1 kpw))).mono ?_
   rintro e w22 ⟨rfl,A3⟩
   have B9:=A3.size_le
   (try simp at B9)
   have Ax:=tn5 A3 (w.heap.size)
   have Ah:=tn5 A3 (w.heap.size+1)
   have Ai:=tn5 A3 (w.heap.size+1+1)
   have Ar:=tn5 A3 (w3.heap.size)
   have Aa:=tn5 A3 (w3.heap.size+1)
   have Ag:=tn5 A3 (w21.heap.size)
   obtain⟨C4,Dp,Du,E0,E6,Ce⟩:=rkx Af B1 kpw A3
   (try clear Cc)
   repeat (first|(with_reducible refine wp_markr 9 ?_)|go_values|go_skip|go_guarded|go_step|go_upon|(simp only[];go_simp))
   refine wp_named (fun w23 A0 => ?_)
   have A8:=congrArg (fun w=>w.heap.size) A0
   (try simp at A8)
   replace A8:=Nat.le_of_eq A8.symm
   obtain⟨Ae,Dq,Dv,E1,Cl,Cf⟩:=rkn Af C4 A0 kpw
   have Ay:=cas A0 (w.heap.size) [.int .i64 A.ix,.int .i64 A.sl,.int .i64 A.sh,.int .i64 A.po,.int .i64 A.wl,.int .i64 A.wh,.slice A.pa len A.cap,.int .i64 A.oi,.int .i64 A.ol]
   have Al:=cas A0 (w.heap.size+1) [.int .i64 0,.int .i64 0,.int .i64 0,.int .i64 0,.int .i64 0,.int .i64 0,.int .i64 0,.int .i64 0,.int .i64 0,.int .i64 0,.int .i64 0,.int .i64 0]
   have Am:=cas A0 (w.heap.size+1+1) [.int .i64 0,.int .i64 0,.int .i64 0]
   have As:=cas A0 (w3.heap.size) [.int .i64 p0.a,.int .i64 p0.b,.int .i64 p0.c,.int .i64 p1.a,.int .i64 p1.b,.int .i64 p1.c,.int .i64 p2.a,.int .i64 p2.b,.int .i64 p2.c,.int .i64 p3.a,.int .i64 p3.b,.int .i64 p3.c]
   have Ab:=cas A0 (w3.heap.size+1) [.int .i64 f.a,.int .i64 f.b,.int .i64 f.c]
   have Aj:=cas A0 (w21.heap.size) [.int .i64 Y.a,.int .i64 Y.b,.int .i64 Y.c]
   have Ak:=cas A0 (w22.heap.size) [.int .i64 G.a,.int .i64 G.b,.int .i64 G.c]
   simp only[CAf,Nat.reduceAdd,and_true]at Ay Al Am As Ab Aj Ak
   clear A0
   (try clear Ax Ah Ai Ar Aa Ag Ce)
   go_wp2_with fail
   refine turn (fun i=>i==5||i==6) 7 (by kernel_rfl) (by kernel_rfl) (St.cell (St.turn Bi (Trn.kp Ae kpw))) fun hG => ?_
   have De:=fun o=>hG (w.heap.size) lto o (ne_addr (by omega))
   have B6:=fun o=>hG (w.heap.size+1) lto o (ne_addr (by omega))
   have B7:=fun o=>hG (w.heap.size+1+1) lto o (ne_addr (by omega))
   have C6:=fun o=>hG (w3.heap.size) lto o (ne_addr (by omega))
   have Aw:=fun o=>hG (w3.heap.size+1) lto o (ne_addr (by omega))
   have B4:=fun o=>hG (w21.heap.size) lto o (ne_addr (by omega))
   have B5:=fun o=>hG (w22.heap.size) lto o (ne_addr (by omega))
   have B3:=fun o=>hG B lto (o+1) ne_off
   clear hG
   simp only[List.take_succ_cons,List.take_zero,List.drop_succ_cons,List.drop_zero]
   repeat (first|(refine wpTurn_pure rfl (fun K hK => ?_);go_simp;first|(refine hK _ _ ?_;clear hK K)|(apply Exists.intro;refine⟨fun _ _ => ?_,hK _ _ ?_⟩;(first|fail);clear hK K))|(refine wpTurn_eff rfl (fun K hK => ?_);go_simp;(first|(first|with_reducible refine⟨_,_,fun _=>tur_st (St.turn Bi (Trn.kp Ae kpw)) (fun w h=>MA.out w h),?_⟩|with_reducible refine⟨_,_,fun _=>tur_rt (Rt.turn Af (Trn.kp Ae kpw)) (fun w h=>MU.out w h),?_⟩));refine hK _ _ ?_;clear hK K))
   refine wpTurn_nil ?_
   intro w24 A1
   clear B3 De B6 B7 C6 Aw B4 B5
   have Ba:=A1.size_le
   (try simp at Ba)
   have Az:=tn5 A1 (w.heap.size)
   have An:=tn5 A1 (w.heap.size+1)
   have Ao:=tn5 A1 (w.heap.size+1+1)
   have At:=tn5 A1 (w3.heap.size)
   have Ac:=tn5 A1 (w3.heap.size+1)
   have Bl:=tn5 A1 (w21.heap.size)
   have Bm:=tn5 A1 (w22.heap.size)
   obtain⟨C5,Dr,Dw,E2,Cm,Cg⟩:=rkx Af Ae kpw A1
   (try clear Cf Cl)
   repeat (first|(with_reducible refine wp_markr 10 ?_)|go_values|go_skip|go_guarded|go_step|go_upon|(simp only[];go_simp))
   refine wp_named (fun w25 A2 => ?_)
   have A9:=congrArg (fun w=>w.heap.size) A2
   (try simp at A9)
   replace A9:=Nat.le_of_eq A9.symm
   obtain⟨Dy,Ds,Dx,E3,E7,E4⟩:=rkn Af C5 A2 kpw
   have B0:=cas A2 (w.heap.size) [.int .i64 A.ix,.int .i64 A.sl,.int .i64 A.sh,.int .i64 A.po,.int .i64 A.wl,.int .i64 A.wh,.slice A.pa len A.cap,.int .i64 A.oi,.int .i64 A.ol]
   have Ap:=cas A2 (w.heap.size+1) [.int .i64 0,.int .i64 0,.int .i64 0,.int .i64 0,.int .i64 0,.int .i64 0,.int .i64 0,.int .i64 0,.int .i64 0,.int .i64 0,.int .i64 0,.int .i64 0]
   have Aq:=cas A2 (w.heap.size+1+1) [.int .i64 0,.int .i64 0,.int .i64 0]
   have Au:=cas A2 (w3.heap.size) [.int .i64 n0.a,.int .i64 n0.b,.int .i64 n0.c,.int .i64 n1.a,.int .i64 n1.b,.int .i64 n1.c,.int .i64 n2.a,.int .i64 n2.b,.int .i64 n2.c,.int .i64 n3.a,.int .i64 n3.b,.int .i64 n3.c]
   have Ad:=cas A2 (w3.heap.size+1) [.int .i64 f.a,.int .i64 f.b,.int .i64 f.c]
   simp only[CAf,Nat.reduceAdd,and_true]at B0 Ap Aq Au Ad
   clear A2
   (try clear Az An Ao At Ac Cg Cm)
   skip
   by_cases hE:EN=0
   ·have hE1:(EN != 0)=false:=by simpa using hE
    have HT':=Lib.hid (HT2.out hE)
    have HE0:=Lib.hid (show e=0→EN=0 from fun _=>hE)
    go_wp2_with fail
    go_roundw
    case rel=>exact⟨k+1,n0,n1,n2,n3,f,EN,by omega,by first|(simp;done)|(simp;omega),fn.out,HT'.out,HE0.out,trw,by first|assumption|omega|(simp;done)|(simp;omega),by go_simp,by go_simp,by go_simp,by go_simp,by go_simp,by go_simp,by go_simp,by go_simp,by go_simp,fun o=>by go_simp,by go_simp,by go_simp,by go_simp,by go_simp,by go_simp,by go_simp,by go_simp,by go_simp,by go_simp,by go_simp,by go_simp,by go_simp,fun o=>by go_simp,by go_simp,by go_simp,by go_simp,fun o=>by go_simp,by go_simp,by go_simp,by go_simp,by go_simp,by go_simp,by go_simp,by go_simp,by go_simp,by go_simp,by go_simp,by go_simp,by go_simp,fun o=>by go_simp,by go_simp,by go_simp,by go_simp,fun o=>by go_simp⟩
    case measure=>simp[intOf];omega
   ·have hE1:(EN != 0)=true:=by simpa using hE
    have RET:=Lib.hid (RET.out hE)
    repeat' (first|go_values|go_skip|go_guarded|go_step|go_upon|(simp only[];go_simp))
    refine bodyPost_ret (by simp[results,Tryz.results102,go_sem, *];first|done|rfl) rfl ?_
    exact RET.out _ trw
  ·have hc1:¬((k:Int)+1≤len):=by omega
   have hT':(⟨⟨p0,p1,p2,p3⟩,f,q⟩:Thr)=T:=(run_done (.inr (List.drop_eq_nil_of_le (by omega)))).symm.trans HT
   have RET:=fun w' (t:Trn B q w w')=>allRet_ok (e:=e) (T:=⟨⟨p0,p1,p2,p3⟩,f,q⟩) (B:=B) (w:=w) (w':=w') f fp he0q t
   simp only[Mat.ints]at RET
   have RET:=Lib.hid RET
   subst hT'
   clear HT he0q
   go_wp2_with fail
   go_region_held3 (fun w'=>w'.cell? ⟨w3.heap.size,0,none⟩=some (Value.int .i64 p0.a)∧w'.cell? ⟨w3.heap.size,1,none⟩=some (Value.int .i64 p0.b)∧w'.cell? ⟨w3.heap.size,2,none⟩=some (Value.int .i64 p0.c)∧w'.cell? ⟨w3.heap.size,3,none⟩=some (Value.int .i64 p1.a)∧w'.cell? ⟨w3.heap.size,4,none⟩=some (Value.int .i64 p1.b)∧w'.cell? ⟨w3.heap.size,5,none⟩=some (Value.int .i64 p1.c)∧w'.cell? ⟨w3.heap.size,6,none⟩=some (Value.int .i64 p2.a)∧w'.cell? ⟨w3.heap.size,7,none⟩=some (Value.int .i64 p2.b)∧w'.cell? ⟨w3.heap.size,8,none⟩=some (Value.int .i64 p2.c)∧w'.cell? ⟨w3.heap.size,9,none⟩=some (Value.int .i64 p3.a)∧w'.cell? ⟨w3.heap.size,10,none⟩=some (Value.int .i64 p3.b)∧w'.cell? ⟨w3.heap.size,11,none⟩=some (Value.int .i64 p3.c)∧w'.cell? ⟨w3.heap.size+1,0,none⟩=some (Value.int .i64 f.a)∧w'.cell? ⟨w3.heap.size+1,1,none⟩=some (Value.int .i64 f.b)∧w'.cell? ⟨w3.heap.size+1,2,none⟩=some (Value.int .i64 f.c)) (simp[*,go_sem]) (fail)
   repeat' (first|go_values|go_skip|go_guarded|go_step|go_upon|(simp only[];go_simp))
   refine bodyPost_ret (by simp[results,Tryz.results102,go_sem, *];first|done|rfl) rfl ?_
   exact RET.out _ trw
end Go.Proofs.YtnljkhlmdacfaaaGreatDoor
