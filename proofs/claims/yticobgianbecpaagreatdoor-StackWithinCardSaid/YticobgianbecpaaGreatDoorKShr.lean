/- Joined: TopBase TrueShare RecipLaw SharesErr Shr Overlap. -/
import Derived.Test.YticobgianbecpaaGreatDoorKCopy
import Derived.Test.YticobgianbecpaaGreatDoorKBack
import Derived.Test.YticobgianbecpaaGreatDoorKLies
import Derived.Test.YticobgianbecpaaGreatDoorKSee
import Derived.Test.YticobgianbecpaaGreatDoorKShare
namespace Go.Proofs.YticobgianbecpaaGreatDoor
open Go Go.Sort Go.RowKit
theorem Meets_yes {X Z:Res} (hx:Fine X) (hz:Fine Z) (h:Close X Z) (w:World) :
  Calls Tryz.prog 93 #[.agg #[.complex .f64 (fl X.a) (fl X.b),.int .i64 X.c],.agg #[.complex .f64 (fl Z.a) (fl Z.b),.int .i64 Z.c]] w fun E w'=>E = .returned (.tuple #[.bool true,.int .i64 0])∧Below w.heap.size w w':=by
 have k:=Meets_any X.a X.b X.c Z.a Z.b Z.c w hx.f1 hx.f2 hz.f1 hz.f2
 have a:apB X.a X.b Z.a Z.b (X.c+Z.c)=true:=by
  unfold apB
  unfold Close at h
  have r:=hx.right.2.1
  have s:=hz.right.2.1
  simp only[Bool.and_eq_true,decide_eq_true_eq]
  exact⟨by omega,h⟩
 rw[a]at k
 have v:askV X.a X.b X.c Z.a Z.b Z.c true=true:=by unfold askV;rw[if_pos ⟨hx.right,hz.right⟩]
 have q:askQ X.a X.b X.c Z.a Z.b Z.c=0:=by unfold askQ;rw[if_pos ⟨hx.right,hz.right⟩]
 rw[v,q]at k
 exact k
theorem len_wrap {n:Nat} (h:n≤40):wrap64 ((n:Int)+1)=n+1∧IntKind.i64.wrap ((n:Int)+1)=n+1:=⟨IntWalk.wrap64_in _ ⟨by omega,by omega⟩,IntWalk.i64_in _ ⟨by omega,by omega⟩⟩
theorem mv_ok {A:Ask}{p:Option Addr}{c:Nat} (h:AskOk (A.mv p c)):AskOk A:=⟨h.i0,h.i1,h.s0,h.s1,h.s2,h.p0,h.w0,h.w1,h.w2,h.ls,h.len,h.oi0,h.oi1,h.ol0,h.ol1⟩
theorem ok_mv {A:Ask} (h:AskOk A) (p:Option Addr) (c:Nat):AskOk (A.mv p c):=⟨h.i0,h.i1,h.s0,h.s1,h.s2,h.p0,h.w0,h.w1,h.w2,h.ls,h.len,h.oi0,h.oi1,h.ol0,h.ol1⟩
end Go.Proofs.YticobgianbecpaaGreatDoor
namespace Go.Proofs.YticobgianbecpaaGreatDoor
theorem pos_ge (n:Int):n≤pos n∧0≤pos n:=by unfold pos;split<;>omega
theorem pos_low {n:Int}{x:Rat}{δ:Rat} (h:(n:Rat)-δ≤x) (x0:0≤x) (d0:0≤δ):(pos n:Rat)-δ≤x:=by
 unfold pos
 split
 ·push_cast;grind
 ·exact h
theorem tr_low {Y Z T:Res}{y z t:Nat→Cq} (hY:In Y y) (hZ:In Z z) (hT:In T t) (h0:0<Y.a-Y.c) (zp:∀n,0≤(z n).re) (d:Rat) (d0:0<d) (d1:d≤1) :
  Ev fun n=>(((dn (pos (Z.a-Z.c)*enL T.a T.b T.c) (Y.a+Y.c):Int):Rat)-d)*(1048576*(y n).re)≤(1048576*(z n).re)*(1048576*(t n).nrm):=by
 have e:=(en_small hT.1.right).1
 have rY:=hY.1.right
 have rZ:=hZ.1.right
 have pb:=pos_bd (Z.a-Z.c) (by have:=rZ.1;have:=rZ.2;unfold Fits at *;omega)
 have mb:=mul_bd pb.1 pb.2 e.1 e.2
 have f1:1≤Y.a+Y.c:=by have:=rY.2;omega
 have v:dn (pos (Z.a-Z.c)*enL T.a T.b T.c) (Y.a+Y.c)*(Y.a+Y.c)≤pos (Z.a-Z.c)*enL T.a T.b T.c:=by unfold dn;exact Int.ediv_mul_le _ (by omega)
 have k0:0≤dn (pos (Z.a-Z.c)*enL T.a T.b T.c) (Y.a+Y.c):=by unfold dn;exact Int.ediv_nonneg mb.1 (by omega)
 have k1:dn (pos (Z.a-Z.c)*enL T.a T.b T.c) (Y.a+Y.c)≤3489660928000000000:=by
  unfold dn
  exact Int.le_trans (Int.ediv_le_self _ mb.1) (Int.le_trans mb.2 (by decide))
 have tz:pos (Z.a-Z.c)*enL T.a T.b T.c=0→dn (pos (Z.a-Z.c)*enL T.a T.b T.c) (Y.a+Y.c)=0:=fun h=>by rw[h];unfold dn;simp
 have i1:=rint _ _ v
 have i2:=rint _ _ k0
 have i3:=rint _ _ k1
 have i4:=rint _ _ pb.1
 have i5:=rint _ _ pb.2
 have i6:=rint _ _ e.1
 have i7:=rint _ _ e.2
 have i8:=rint _ _ (show 1≤Y.a-Y.c by omega)
 push_cast at i1 i2 i3 i4 i5 i6 i7 i8
 obtain⟨δ,hδ⟩:∃δ:Rat,δ=d/100000000000000000000:=⟨_,rfl⟩
 have p0:0<δ:=by rw[hδ];grind
 have pd:100000000000000000000*δ=d:=by rw[hδ];grind
 clear hδ
 refine(((hY.re δ p0).and (hZ.re δ p0)).and (in_en hT δ p0 (by grind))).mono fun n ⟨⟨⟨a1,a2⟩,b1,_⟩,c1,_⟩ => ?_
 have b2:=pos_low b1 (by have:=zp n;grind) (by grind)
 have c2:(0:Rat)≤1048576*(t n).nrm:=by have:=(t n).nrm_nn;grind
 have b3:(0:Rat)≤1048576*(z n).re:=by have:=zp n;grind
 unfold enRL at c1
 push_cast at a1 a2
 have hz:pos (Z.a-Z.c)*enL T.a T.b T.c=0∨(1≤pos (Z.a-Z.c)∧1≤enL T.a T.b T.c):=by
  by_cases h1:pos (Z.a-Z.c)=0
  ·left;rw[h1];simp
  ·by_cases h2:enL T.a T.b T.c=0
   ·left;rw[h2];simp
   ·right;omega
 generalize dn (pos (Z.a-Z.c)*enL T.a T.b T.c) (Y.a+Y.c)=K at *
 generalize enL T.a T.b T.c=E at *
 generalize pos (Z.a-Z.c)=Q at *
 generalize 1048576*(y n).re=A at *
 generalize 1048576*(z n).re=B at *
 generalize 1048576*(t n).nrm=C at *
 generalize (Y.a:Rat)=ya at *
 generalize (Y.c:Rat)=yc at *
 have m0:=Rat.mul_nonneg b3 c2
 have A0:1/2≤A:=by grind
 have m5:=Rat.mul_le_mul_of_nonneg_left A0 (show 0≤d by grind)
 rcases hz with hz|⟨h1,h2⟩
 ·rw[tz hz]
  push_cast
  grind
 ·have j1:=rint _ _ h1
  have j2:=rint _ _ h2
  push_cast at j1 j2
  have m1:=rmul_le (a:=(Q:Rat)-δ) (b:=B) (c:=(E:Rat)-δ) (d:=C) (by grind) b2 (by grind) c1
  have m2:=Rat.mul_le_mul_of_nonneg_left a2 i2
  have m3:=Rat.mul_le_mul_of_nonneg_right i3 (show 0≤δ by grind)
  have m4:=Rat.mul_le_mul_of_nonneg_right i5 (show 0≤δ by grind)
  have m6:=Rat.mul_le_mul_of_nonneg_right i7 (show 0≤δ by grind)
  have m7:=Rat.mul_nonneg (show 0≤δ by grind) (show 0≤δ by grind)
  grind
theorem tr_high {Y Z T:Res}{y z t:Nat→Cq} (hY:In Y y) (hZ:In Z z) (hT:In T t) (h0:0<Y.a-Y.c) (zp:∀n,0≤(z n).re) (d:Rat) (d0:0<d) (d1:d≤1) :
  Ev fun n=>(1048576*(z n).re)*(1048576*(t n).nrm)≤(((up (pos (Z.a+Z.c)*enH T.a T.b T.c) (Y.a-Y.c):Int):Rat)+d)*(1048576*(y n).re):=by
 have e:=(en_small hT.1.right).2
 have rY:=hY.1.right
 have rZ:=hZ.1.right
 have pb:=pos_bd (Z.a+Z.c) (by have:=rZ.1;have:=rZ.2;unfold Fits at *;omega)
 have mb:=mul_bd pb.1 pb.2 e.1 e.2
 have v:pos (Z.a+Z.c)*enH T.a T.b T.c≤up (pos (Z.a+Z.c)*enH T.a T.b T.c) (Y.a-Y.c)*(Y.a-Y.c):=by
  generalize pos (Z.a+Z.c)*enH T.a T.b T.c=X
  generalize Y.a-Y.c=D at h0
  unfold up
  have:=Int.lt_mul_ediv_self_add (x:=X+D-1) h0
  rw[Int.mul_comm]at this
  omega
 have k0:0≤up (pos (Z.a+Z.c)*enH T.a T.b T.c) (Y.a-Y.c):=by unfold up;exact Int.ediv_nonneg (by omega) (by omega)
 have k1:up (pos (Z.a+Z.c)*enH T.a T.b T.c) (Y.a-Y.c)≤3489660929000000000:=by
  unfold up
  have m:=Int.le_trans mb.2 (show(134217728*26000000000:Int)≤3489660928000000000 by decide)
  generalize pos (Z.a+Z.c)*enH T.a T.b T.c=X at *
  have yb:Y.a-Y.c≤134217728:=by have:=rY.1;have:=rY.2;unfold Fits at *;omega
  refine Int.le_trans (Int.ediv_le_self _ (by omega)) ?_
  omega
 have pg:=(pos_ge (Z.a+Z.c)).1
 have i1:=rint _ _ v
 have i2:=rint _ _ k0
 have i3:=rint _ _ k1
 have i4:=rint _ _ pb.1
 have i5:=rint _ _ pb.2
 have i6:=rint _ _ e.1
 have i7:=rint _ _ e.2
 have i8:=rint _ _ (show 1≤Y.a-Y.c by omega)
 have i9:=rint _ _ pg
 push_cast at i1 i2 i3 i4 i5 i6 i7 i8 i9
 obtain⟨δ,hδ⟩:∃δ:Rat,δ=d/100000000000000000000:=⟨_,rfl⟩
 have p0:0<δ:=by rw[hδ];grind
 have pd:100000000000000000000*δ=d:=by rw[hδ];grind
 clear hδ
 refine(((hY.re δ p0).and (hZ.re δ p0)).and (in_en hT δ p0 (by grind))).mono fun n ⟨⟨⟨a1,a2⟩,_,b1⟩,_,c1⟩ => ?_
 have c2:(0:Rat)≤1048576*(t n).nrm:=by have:=(t n).nrm_nn;grind
 have b3:(0:Rat)≤1048576*(z n).re:=by have:=zp n;grind
 unfold enRH at c1
 push_cast at a1 a2 b1
 generalize up (pos (Z.a+Z.c)*enH T.a T.b T.c) (Y.a-Y.c)=K at *
 generalize enH T.a T.b T.c=E at *
 generalize pos (Z.a+Z.c)=Q at *
 generalize 1048576*(y n).re=A at *
 generalize 1048576*(z n).re=B at *
 generalize 1048576*(t n).nrm=C at *
 generalize (Y.a:Rat)=ya at *
 generalize (Y.c:Rat)=yc at *
 generalize (Z.a:Rat)=za at *
 generalize (Z.c:Rat)=zc at *
 have A0:1/2≤A:=by grind
 have m5:=Rat.mul_le_mul_of_nonneg_left A0 (show 0≤d by grind)
 have m1:=rmul_le (a:=B) (b:=(Q:Rat)+δ) (c:=C) (d:=(E:Rat)+δ) b3 (by grind) c2 c1
 have m2:=Rat.mul_le_mul_of_nonneg_left a1 i2
 have m3:=Rat.mul_le_mul_of_nonneg_right i3 (show 0≤δ by grind)
 have m4:=Rat.mul_le_mul_of_nonneg_right i5 (show 0≤δ by grind)
 have m6:=Rat.mul_le_mul_of_nonneg_right i7 (show 0≤δ by grind)
 have m7:=Rat.mul_le_mul_of_nonneg_left (show δ≤1 by grind) (show 0≤δ by grind)
 grind
theorem cutO_le {a b:Int} (h:a≤b):cutO a≤cutO b:=by unfold cutO;split<;>split<;>omega
theorem refl_over {R S:Res}{r s:Nat→Cq} (h:In R r) (k:In S s) (e:∀n,(r n).nrm=(s n).nrm):cutO (enL R.a R.b R.c)≤cutO (enH S.a S.b S.c):=by
 refine cutO_le (int_le 2 (by decide) fun d hd d1 => ?_)
 obtain⟨n,⟨a,_⟩,_,b⟩:=((in_en h d hd d1).and (in_en k d hd d1)).ex
 unfold enRL at a
 unfold enRH at b
 rw[e n]at a
 grind
theorem tran_over {Y Z T Y' Z' T':Res}{y z t y' z' t':Nat→Cq} (hY:In Y y) (hZ:In Z z) (hT:In T t) (h0:0<Y.a-Y.c) (zp:∀n,0≤(z n).re)
  (hY':In Y' y') (hZ':In Z' z') (hT':In T' t') (h0':0<Y'.a-Y'.c) (zp':∀n,0≤(z' n).re) (e:∀n,(z n).re*(t n).nrm*(y' n).re=(z' n).re*(t' n).nrm*(y n).re):shT0 T Y Z≤shT1 T' Y' Z':=by
 unfold shT0 shT1
 refine cutO_le (int_le 2 (by decide) fun d hd d1 => ?_)
 have j1:=rint _ _ (show 1≤Y.a-Y.c by omega)
 have j2:=rint _ _ (show 1≤Y'.a-Y'.c by omega)
 push_cast at j1 j2
 obtain⟨n,⟨⟨⟨a,b⟩,c,_⟩,f,_⟩⟩:=((((tr_low hY hZ hT h0 zp d hd d1).and (tr_high hY' hZ' hT' h0' zp' d hd d1)).and (hY.re (1/2) (by decide +kernel))).and (hY'.re (1/2) (by decide +kernel))).ex
 push_cast at c f
 have en:=e n
 generalize (dn (pos (Z.a-Z.c)*enL T.a T.b T.c) (Y.a+Y.c):Int)=K at *
 generalize (up (pos (Z'.a+Z'.c)*enH T'.a T'.b T'.c) (Y'.a-Y'.c):Int)=L at *
 generalize (y n).re=A at *
 generalize (y' n).re=A' at *
 have A0:0<1048576*A:=by grind
 have A1:0<1048576*A':=by grind
 have m1:=Rat.mul_le_mul_of_nonneg_right a (show 0≤1048576*A' by grind)
 have m2:=Rat.mul_le_mul_of_nonneg_right b (show 0≤1048576*A by grind)
 have m3:(((K:Rat)-d)*(1048576*A)*(1048576*A'))≤(((L:Rat)+d)*(1048576*A')*(1048576*A)):=by
  have q:1048576*(z n).re*(1048576*(t n).nrm)*(1048576*A')=1048576*(z' n).re*(1048576*(t' n).nrm)*(1048576*A):=by
   generalize (z n).re=B at *
   generalize (z' n).re=B' at *
   generalize (t n).nrm=C at *
   generalize (t' n).nrm=C' at *
   grind
  exact Rat.le_trans m1 (by rw[q];exact m2)
 have m4:(K:Rat)-d≤(L:Rat)+d:=by
  refine rle_of_mul A0 (rle_of_mul A1 ?_)
  grind
 grind
end Go.Proofs.YticobgianbecpaaGreatDoor
namespace Go.Proofs.YticobgianbecpaaGreatDoor
theorem Turns.stop1 {y f:Cq} (hy:y.re=0) (hn:f.im=0):Turns (matC y (f*f)) Cq.one:=by
 have hi:y.inv.re=0:=inv_re hy
 unfold matC hf
 refine⟨?_,?_,?_,?_⟩<;>dsimp only<;>generalize y.inv=Y at * <;> (apply Cq.ext'<;>simp<;>grind)
theorem lay_turns1 {P:PA}{p:PL} (h0:0≤p.n) (hl:p.l=0) (n:Nat):∃F:Cq,F.nrm=1∧Turns (matC (layC P n p).1 ((layC P n p).2*(layC P n p).2)) F:=by
 obtain⟨r1,r2⟩:=no_real (P:=P) h0 hl
 unfold layC
 dsimp only
 rcases Rat.le_total (a:=0) (b:=(nsN P p).re)with c|c
 ·have i:=r1 c
  have z:fadL P p=0:=by unfold fadL;exact flo_zero fun m=>by unfold fadT;rw[i];grind
  have u:(faN P p n).nrm=1:=by
   unfold faN
   rw[z,ph_zero,Cq.nrm_scale,(uN_spec (turL P p)).1 n]
   decide +kernel
  exact⟨_,u,Turns.go (ad_im hl i n) u⟩
 ·have i:=r2 c
  refine⟨Cq.one,by decide +kernel,Turns.stop1 (ad_re hl i n) ?_⟩
  have z:turL P p=0:=by unfold turL;exact flo_zero fun m=>by unfold turT;rw[i];grind
  unfold faN
  rw[z,uN_zero]
  simp
theorem turns_prod1:∀ {k:List (Cq × Cq)},(∀x∈k,∃F:Cq,F.nrm=1∧Turns (matC x.1 (x.2*x.2)) F)→∃F:Cq,F.nrm=1∧Turns (prodC k) F
 | [],_=>⟨Cq.one,by decide +kernel,Turns.one⟩
 | x::k,h=>by
  obtain⟨F,f1,f2⟩:=h x (List.mem_cons_self ..)
  obtain⟨G,g1,g2⟩:=turns_prod1 (k:=k) fun y hy=>h y (List.mem_cons_of_mem _ hy)
  exact⟨F*G,by rw[Cq.nrm_mul,f1,g1];decide +kernel,f2.mul g2⟩
theorem refl_nrm {P Q:PA} (h:Back P Q) (n:Nat) (hy:(adN P (frontP P) n).im=0) (hz:(adN P (backP P) n).im=0) (ht:∃F:Cq,F.nrm=1∧Turns (prodC (P.ls.map (layC P n))) F) :
  (ampN P false n).nrm=(ampN Q false n).nrm:=by
 obtain⟨F,f1,tp⟩:=ht
 unfold ampN
 rw[thr_back h,h.f,h.b,← ad_congr h.si h.po,← ad_congr h.si h.po]
 have e:thrN P n=(prodC (P.ls.map (layC P n)),facC (P.ls.map (layC P n))):=by
  unfold thrN
  rw[run_is]
  dsimp only
  have e:(⟨Cq.one,zr,zr,Cq.one⟩:M4)=oneM:=rfl
  rw[e,one_mul4,Cq.one_mul]
 rw[e]
 unfold ampC tauC
 simp only[Bool.false_eq_true,if_false]
 generalize adN P (frontP P) n=y at *
 generalize adN P (backP P) n=z at *
 generalize prodC (P.ls.map (layC P n))=T at *
 obtain⟨a,b,c,d⟩:=T
 obtain⟨t0,t1,t2,t3⟩:=tp
 dsimp only at t0 t1 t2 t3 ⊢
 have e:z*(d+b*y)+(c+a*y)=y*(a+b*z)+(c+d*z):=by apply Cq.ext'<;>simp<;>grind
 rw[e]
 generalize (y*(a+b*z)+(c+d*z)).inv=D
 have key:(z*(d+b*y)-(c+a*y))*F.conj = -((y*(a+b*z)-(c+d*z)).conj*F):=by
  have cy:y.conj=y:=by apply Cq.ext'<;>simp[hy]
  have cz:z.conj=z:=by apply Cq.ext'<;>simp[hz]
  have e1:(y*(a+b*z)-(c+d*z)).conj*F=y.conj*(a.conj*F)+y.conj*z.conj*(b.conj*F)-c.conj*F-z.conj*(d.conj*F):=by apply Cq.ext'<;>simp<;>grind
  rw[e1,t0,t1,t2,t3,cy,cz]
  apply Cq.ext'<;>simp<;>grind
 have k2:=congrArg Cq.nrm key
 rw[Cq.nrm_mul,Cq.nrm_conj,Cq.nrm_neg,Cq.nrm_mul,Cq.nrm_conj,f1]at k2
 rw[Cq.nrm_mul,Cq.nrm_mul]
 have k3:(z*(d+b*y)-(c+a*y)).nrm=(y*(a+b*z)-(c+d*z)).nrm:=by grind
 rw[k3]
theorem ns_outer_pos {P:PA}{m s:Int} (hs:P.ix*P.s=m*s) (m0:1≤m) (s0:0≤s) (s1:s≤9999):0<(nsN P ⟨m,0,0⟩).re:=by
 unfold nsN idN siN
 rw[hs]
 have i0:=rint _ _ m0
 have i1:=rint _ _ (Int.mul_nonneg (show 0≤m by omega) s0)
 have i2:=rint _ _ (Int.mul_le_mul_of_nonneg_left s1 (show 0≤m by omega))
 push_cast at i0 i1 i2
 have q:=rsq_mono (a:=((m*s:Int):Rat)/100000000) (b:=(m:Rat)*9999/100000000) (by push_cast;grind) (by push_cast;grind)
 have q2:=rsq_mono (a:=(1:Rat)) (b:=(m:Rat)) (by decide) (by grind)
 push_cast at q ⊢
 simp
 grind
theorem stop_no {A:Ask}{P:PA}{b:Box}{p:PL} (hP:P.at A) (hA:0≤A.ix) (h:p.at b) (n0:0≤p.n) (l0:0≤p.l) (hq:(norR 0 A b).q=0) (hv:0<(nsN P p).re):stopR 0 A b=false:=by
 cases st:stopR 0 A b
 ·rfl
 exfalso
 have hn:=(in_nor hP hA h n0 l0 hq).2.2
 unfold stopR at st
 have st':=of_decide_eq_true st
 have:(nsqR 0 A b).a+(nsqR 0 A b).c≤0:=by
  unfold norR at hq
  obtain⟨_,q1,_⟩:=after_val hq
  rw[if_pos st'.1]at q1
  unfold realM at q1
  split at q1
  ·rw[(quad_bad 2).2.2.2]at q1;exact absurd q1 (by decide)
  ·split at q1
   ·rw[(quad_bad 10).2.2.2]at q1;exact absurd q1 (by decide)
   ·rw[if_neg (by omega)]at q1
    split at q1
    ·assumption
    ·rw[(quad_bad 14).2.2.2]at q1;exact absurd q1 (by decide)
 have i:=rint _ _ this
 have p2:=hn.parts.2
 push_cast at i p2
 grind
theorem div_nn {a b:Rat} (ha:0≤a) (hb:0≤b):0≤a/b:=by
 by_cases c:b=0
 ·rw[c];grind
 ·have:=rdiv_mul a b c
  exact rle_of_mul (show 0<b by grind) (by grind)
theorem ad_nn {P:PA}{p:PL} (h0:0≤p.n) (hl:p.l=0) (hn:∀n,(noN P p n).im=0) (n:Nat):0≤(adN P p n).re:=by
 have rs:=rootN_spec (ns_nn (P:=P) h0 (show 0≤p.l by omega))
 unfold adN
 split
 ·exact rs.re n
 ·have i:=id_im hl
  have r:=rs.re n
  have m:=hn n
  unfold noN at m ⊢
  generalize rootN (nsN P p) n=y at *
  have e:(idN p*idN p*y.inv).re=(idN p).re*(idN p).re*(y.re/y.nrm):=by
   unfold Cq.inv
   simp only[Cq.mul_re,Cq.mul_im,i]
   grind
  rw[e]
  exact Rat.mul_nonneg (rsq _) (div_nn r y.nrm_nn)
def Over (a b c d:Int):Prop:=max a c≤min b d
theorem recip_over {A:Ask} (a:AskOk A) (q:otherQ A=0) (p:Option Addr) (c:Nat) (q1:(ampR A false).q=0) (q2:(ampR A true).q=0) (q3:(ampR (other A p c) false).q=0) (q4:(ampR (other A p c) true).q=0)
  (hy:0<(admR 0 A ⟨A.ix,A.ix,0,0,0⟩).a-(admR 0 A ⟨A.ix,A.ix,0,0,0⟩).c) (hy':0<(admR 0 (other A p c) ⟨A.oi,A.oi,0,0,0⟩).a-(admR 0 (other A p c) ⟨A.oi,A.oi,0,0,0⟩).c) :
  (stopR 0 A ⟨A.oi,A.oi,0,0,A.ol⟩=false∧stopR 0 (other A p c) ⟨A.ix,A.ix,0,0,0⟩=false) ∧
  Over (shT0 (ampR A true) (admR 0 A ⟨A.ix,A.ix,0,0,0⟩) (admR 0 A ⟨A.oi,A.oi,0,0,A.ol⟩)) (shT1 (ampR A true) (admR 0 A ⟨A.ix,A.ix,0,0,0⟩) (admR 0 A ⟨A.oi,A.oi,0,0,A.ol⟩))
   (shT0 (ampR (other A p c) true) (admR 0 (other A p c) ⟨A.oi,A.oi,0,0,0⟩) (admR 0 (other A p c) ⟨A.ix,A.ix,0,0,0⟩)) (shT1 (ampR (other A p c) true) (admR 0 (other A p c) ⟨A.oi,A.oi,0,0,0⟩) (admR 0 (other A p c) ⟨A.ix,A.ix,0,0,0⟩)) ∧
  ((∀b∈A.ls,b.lo=0)→Over (cutO (enL (ampR A false).a (ampR A false).b (ampR A false).c)) (cutO (enH (ampR A false).a (ampR A false).b (ampR A false).c)) (cutO (enL (ampR (other A p c) false).a (ampR (other A p c) false).b (ampR (other A p c) false).c)) (cutO (enH (ampR (other A p c) false).a (ampR (other A p c) false).b (ampR (other A p c) false).c))):=by
 obtain⟨ps,hp⟩:=lays_ex a.ls
 have b:=pt_back q ps
 have P:=ptA_ok a hp
 have Q:=ptB_ok a q hp p c
 obtain⟨z1,z2,z3,z4⟩:=otherQ_zero q
 have o:=other_ok a q p c
 have e0:A.oi*(A.ix*A.sl/A.oi)=A.ix*A.sl:=Int.mul_ediv_cancel' (Int.dvd_of_emod_eq_zero z2)
 obtain⟨fy,fz⟩:=amp_adm q1
 obtain⟨fy',fz'⟩:=amp_adm q3
 have fy':(admR 0 (other A p c) ⟨A.oi,A.oi,0,0,0⟩).q=0:=fy'
 have fz':(admR 0 (other A p c) ⟨A.ix,A.ix,0,0,0⟩).q=0:=fz'
 have bF:frontP (ptA A ps)=⟨A.ix,0,0⟩:=rfl
 have bB:backP (ptA A ps)=⟨A.oi,0,0⟩:=by unfold backP ptA;dsimp only;rw[z1]
 have vF:=ns_outer_pos (P:=ptA A ps) (m:=A.ix) (s:=A.sl) rfl (Int.le_trans (by decide) a.i0) a.s0 (Int.le_trans a.s1 a.s2)
 have vB:=ns_outer_pos (P:=ptA A ps) (m:=A.oi) (s:=A.ix*A.sl/A.oi) e0.symm (Int.le_trans (by decide) a.oi0) o.s0 (Int.le_trans o.s1 o.s2)
 have kB:nsN (ptB A ps) ⟨A.ix,0,0⟩=nsN (ptA A ps) ⟨A.ix,0,0⟩:=by unfold nsN;rw[b.si]
 have rF:=(no_real (P:=ptA A ps) (p:=⟨A.ix,0,0⟩) P.ix rfl).1 (by grind)
 have rB:=(no_real (P:=ptA A ps) (p:=⟨A.oi,0,0⟩) P.oi rfl).1 (by grind)
 have iF:=in_adm P.i P.ix (p:=frontP (ptA A ps)) (b:=⟨A.ix,A.ix,0,0,0⟩) ⟨Int.le_refl _,Int.le_refl _,Int.le_refl _,Int.le_refl _,rfl⟩ P.ix (Int.le_refl _) fy
 have iB:=in_adm P.i P.ix (p:=backP (ptA A ps)) (b:=⟨A.oi,A.oi,0,0,A.ol⟩) ⟨Int.le_refl _,Int.le_refl _,Int.le_refl _,Int.le_refl _,rfl⟩ P.oi P.ol fz
 have jF:=in_adm Q.i Q.ix (p:=frontP (ptB A ps)) (b:=⟨A.oi,A.oi,0,0,0⟩) ⟨Int.le_refl _,Int.le_refl _,Int.le_refl _,Int.le_refl _,rfl⟩ Q.ix (Int.le_refl _) fy'
 have jB:=in_adm Q.i Q.ix (p:=backP (ptB A ps)) (b:=⟨A.ix,A.ix,0,0,0⟩) ⟨Int.le_refl _,Int.le_refl _,Int.le_refl _,Int.le_refl _,rfl⟩ Q.oi (Int.le_refl _) fz'
 have t1:=(in_amp P q2).1
 have t2:=(in_amp Q q4).1
 have r1:=(in_amp P q1).1
 have r2:=(in_amp Q q3).1
 have eF:adN (ptB A ps) (frontP (ptB A ps))=adN (ptA A ps) (backP (ptA A ps)):=by funext n;rw[b.f,← ad_congr b.si b.po]
 have eB:adN (ptB A ps) (backP (ptB A ps))=adN (ptA A ps) (frontP (ptA A ps)):=by funext n;rw[b.b,← ad_congr b.si b.po]
 have nF:∀n,0≤(adN (ptA A ps) (frontP (ptA A ps)) n).re:=fun n=>by rw[bF];exact ad_nn P.ix rfl rF n
 have nB:∀n,0≤(adN (ptA A ps) (backP (ptA A ps)) n).re:=fun n=>by rw[bB];exact ad_nn P.oi rfl rB n
 have mF:∀n,(adN (ptA A ps) (frontP (ptA A ps)) n).im=0:=fun n=>by rw[bF];exact ad_im rfl rF n
 have mB:∀n,(adN (ptA A ps) (backP (ptA A ps)) n).im=0:=fun n=>by rw[bB];exact ad_im rfl rB n
 have jF':=jF.2.1
 have jB':=jB.2.1
 rw[eF]at jF'
 rw[eB]at jB'
 have cross:∀n,(adN (ptA A ps) (backP (ptA A ps)) n).re*(ampN (ptA A ps) true n).nrm*(adN (ptA A ps) (backP (ptA A ps)) n).re=(adN (ptA A ps) (frontP (ptA A ps)) n).re*(ampN (ptB A ps) true n).nrm*(adN (ptA A ps) (frontP (ptA A ps)) n).re:=fun n=>by
  have k:=congrArg Cq.nrm (amps_back b n)
  rw[Cq.nrm_mul,Cq.nrm_mul]at k
  have m1:=mF n
  have m2:=mB n
  generalize adN (ptA A ps) (backP (ptA A ps)) n=z at *
  generalize adN (ptA A ps) (frontP (ptA A ps)) n=y at *
  generalize (ampN (ptA A ps) true n).nrm=g at *
  generalize (ampN (ptB A ps) true n).nrm=h at *
  unfold Cq.nrm at k
  rw[m1,m2]at k
  grind
 refine⟨⟨?_,?_⟩,?_,fun nl => ?_⟩
 ·exact stop_no P.i P.ix (p:=backP (ptA A ps)) ⟨Int.le_refl _,Int.le_refl _,Int.le_refl _,Int.le_refl _,rfl⟩ P.oi P.ol (adm_nor fz) (by rw[bB];exact vB)
 ·exact stop_no Q.i Q.ix (p:=backP (ptB A ps)) ⟨Int.le_refl _,Int.le_refl _,Int.le_refl _,Int.le_refl _,rfl⟩ Q.oi (Int.le_refl _) (adm_nor fz') (by
   have:backP (ptB A ps)=⟨A.ix,0,0⟩:=rfl
   rw[this,kB];exact vF)
 ·have k1:=tran_over iF.2.1 iB.2.1 t1 hy nB iF.2.1 iB.2.1 t1 hy nB fun n=>rfl
  have k2:=tran_over iF.2.1 iB.2.1 t1 hy nB jF' jB' t2 hy' nF fun n=>cross n
  have k3:=tran_over jF' jB' t2 hy' nF iF.2.1 iB.2.1 t1 hy nB fun n=>(cross n).symm
  have k4:=tran_over jF' jB' t2 hy' nF jF' jB' t2 hy' nF fun n=>rfl
  unfold Over
  omega
 ·have e:∀n,(ampN (ptA A ps) false n).nrm=(ampN (ptB A ps) false n).nrm:=fun n=>refl_nrm b n (mF n) (mB n) (turns_prod1 fun x hx=>by
   obtain⟨p,hp',rfl⟩:=List.mem_map.1 hx
   obtain⟨k0,k1⟩:=hp.nl nl p hp'
   exact lay_turns1 k0 k1 n)
  have k1:=refl_over r1 r1 fun n=>rfl
  have k2:=refl_over r1 r2 e
  have k3:=refl_over r2 r1 fun n=>(e n).symm
  have k4:=refl_over r2 r2 fun n=>rfl
  unfold Over
  omega
end Go.Proofs.YticobgianbecpaaGreatDoor
namespace Go.Proofs.YticobgianbecpaaGreatDoor
open Go Go.Sort Go.RowKit
theorem aft_qd {e:Int}{R:Res} (h:¬e=0):(after e R).q=e:=by unfold after;rw[if_neg h];exact(quad_bad e).2.2.2
theorem idx_dead {e:Int}{b:Box} (h:¬e=0):(idxR e b).q=e:=by
 unfold idxR
 dsimp only
 split
 ·exact aft_qd h
 ·simp only[aft_qd h]
theorem nsq_dead {e:Int}{A:Ask}{b:Box} (h:¬e=0):(nsqR e A b).q=e:=by unfold nsqR;simp only[idx_dead h,aft_qd h]
theorem nor_dead {e:Int}{A:Ask}{b:Box} (h:¬e=0):(norR e A b).q=e:=by unfold norR;simp only[nsq_dead h,aft_qd h]
theorem adm_dead {e:Int}{A:Ask}{b:Box} (h:¬e=0):(admR e A b).q=e:=by
 unfold admR
 dsimp only
 split
 ·exact nor_dead h
 ·simp only[nor_dead h,idx_dead h,aft_qd h]
theorem thr_dead {e:Int}{A:Ask}{fs:Bool} (h:¬e=0):(thrR e A fs).q=e:=by
 unfold thrR
 cases A.ls with
 | nil=>unfold runR;rfl
 | cons b l=>unfold runR;dsimp only;rw[if_neg h]
theorem ampE_dead {e:Int}{A:Ask}{fs:Bool} (h:¬e=0):(ampE e A fs).q=e:=by
 unfold ampE
 simp only[adm_dead h,thr_dead h,aft_qd h]
 split<;>exact aft_qd h
set_option maxHeartbeats 2000000 in
theorem open_bad (A:Ask) (w:World) (hr:Row A.pa A.ls w) :
  Calls Tryz.prog 35 #[A.val] w fun e w'=>∃n,e = .returned (.tuple #[.pointer (some ⟨n,0,none⟩),.int .i64 (ckQ A)])∧Below w.heap.size w w':=by
 have CK:=fun w hr=>CheckAsk_any A w hr
 unfold Ask.val at CK ⊢
 generalize ckI A=I at *
 generalize ckQ A=Q at *
 have CK:=Lib.hid CK
 have HR:=Lib.hid hr
 clear hr
 go_enter Tryz.func35,Tryz.ntmps35
 go_wp2_with fail
 refine(CK.out _ (HR.out.bel blw)).mono ?_
 rintro e w1 ⟨rfl,A2⟩
 have A6:=A2.size
 (try simp at A6)
 have Ar:=bl5 A2 (w.heap.size)
 repeat' (first|go_values|go_skip|go_guarded|go_step|go_upon|(simp only[];go_simp))
 go_ret2
 exact⟨w1.heap.size,rfl,blw⟩
def zeroSix:Value := .agg #[.int .i64 0,.int .i64 0,.int .i64 0,.int .i64 0,.int .i64 0,.int .i64 0]
set_option maxRecDepth 100000 in
set_option maxHeartbeats 4000000 in
theorem SharesOf_wrong (A:Ask) (hq:¬ckQ A=0) (w:World) (hr:Row A.pa A.ls w) :
  Calls Tryz.prog 10 #[A.val] w fun e w'=>e = .returned (.tuple #[zeroSix,.int .i64 (ckQ A)])∧Below w.heap.size w w':=by
 have OP:=fun w hr=>open_bad A w hr
 unfold Ask.val at OP ⊢
 unfold zeroSix
 generalize ckQ A=Q at *
 have hq1:(Q != 0)=true:=by simpa using hq
 have OP:=Lib.hid OP
 have HR:=Lib.hid hr
 clear hr hq
 go_enter Tryz.func10,Tryz.ntmps10
 go_wp2_with fail
 refine(OP.out _ (HR.out.bel blw)).mono ?_
 rintro e w1 ⟨n,rfl,A2⟩
 have A6:=A2.size
 (try simp at A6)
 have Ab:=bl5 A2 (w.heap.size+1)
 repeat' (first|go_values|go_skip|go_guarded|go_step|go_upon|(simp only[];go_simp))
 refine bodyPost_ret (ret_six _ _ (w.heap.size+1) (.int .i64 0) (.int .i64 0) (.int .i64 0) (.int .i64 0) (.int .i64 0) (.int .i64 0) (.int .i64 Q) rfl rfl (by go_simp) (by go_simp) (by go_simp) (by go_simp) (by go_simp) (by go_simp)) rfl ?_
 exact⟨rfl,blw⟩
set_option maxRecDepth 100000 in
set_option maxHeartbeats 16000000 in
theorem SharesOf_bad (A:Ask) (hA:AskOk A) (q:Int) (hq:(ampE (ampR A false).q A true).q=q) (h0:¬q=0) (w:World) (hr:Row A.pa A.ls w) (hpa:∀a,A.pa=some a→a.block<w.heap.size) :
  Calls Tryz.prog 10 #[A.val] w fun e w'=>e = .returned (.tuple #[zeroSix,.int .i64 q])∧Below w.heap.size w w':=by
 obtain⟨hw1,hw2⟩:=len_wrap2 hA.len
 have OP:=fun w hr hpa=>open_any A hA w hr hpa
 have AF:=fun n=>amp_no n A hA
 have AT:=fun n=>amp_yes_e n (ampR A false).q A hA
 have fR:=fine_amp A false
 have fT:=fine_ampE (ampR A false).q A true
 have fY:=fine_adm q A ⟨A.ix,A.ix,0,0,0⟩
 have fZ:=fine_adm q A ⟨A.oi,A.oi,0,0,A.ol⟩
 have AZ:=fun n w (L:Lt n q A w)=>(adm_any n q A (A.ls.length+1) _ hA (med_last A hA) w L).mono fun E w' ⟨h1,h2⟩=>(⟨h1,by rw[adm_dead h0]at h2;exact h2.low L.st.cell⟩:_∧Below w.heap.size w w')
 have AY:=fun n w (L:Lt n q A w)=>(adm_any n q A 0 _ hA (med_front A hA) w L).mono fun E w' ⟨h1,h2⟩=>(⟨h1,by rw[adm_dead h0]at h2;exact h2.low L.st.cell⟩:_∧Below w.heap.size w w')
 have NO:=fun n w (L:Lt n q A w)=>(normal_any n q A (A.ls.length+1) _ hA (med_last A hA) w L).mono fun E w' ⟨h1,h2⟩=>(⟨h1,by rw[nor_dead h0]at h2;exact h2.low L.st.cell⟩:_∧Below w.heap.size w w')
 have PY:=fun n w (S:St n q w)=>(c_parts n q _ fY w S).mono fun E w' ⟨h1,h2⟩=>(⟨h1,h2.low S.cell⟩:_∧Below w.heap.size w w')
 have PZ:=fun n w (S:St n q w)=>(c_parts n q _ fZ w S).mono fun E w' ⟨h1,h2⟩=>(⟨h1,h2.low S.cell⟩:_∧Below w.heap.size w w')
 simp only[pt_err _ h0]at PY PZ
 generalize ampR A false=R at *
 rw[← hq]at h0
 generalize hT:ampE R.q A true=T at *
 subst hq
 generalize admR T.q A ⟨A.ix,A.ix,0,0,0⟩=Y at *
 generalize admR T.q A ⟨A.oi,A.oi,0,0,A.ol⟩=Z at *
 generalize norR T.q A ⟨A.oi,A.oi,0,0,A.ol⟩=N at *
 generalize stopR T.q A ⟨A.oi,A.oi,0,0,A.ol⟩=st at *
 have hq1:(T.q != 0)=true:=by simpa using h0
 unfold zeroSix
 unfold Ask.val at OP ⊢
 have OP:=Lib.hid OP
 have AF:=Lib.hid AF
 have AT:=Lib.hid AT
 have AZ:=Lib.hid AZ
 have AY:=Lib.hid AY
 have NO:=Lib.hid NO
 have PY:=Lib.hid PY
 have PZ:=Lib.hid PZ
 have HR:=Lib.hid hr
 have HP:=Lib.hid hpa
 clear hr hpa hA h0 fR fT fY fZ hT
 go_enter Tryz.func10,Tryz.ntmps10
 go_wp2_with fail
 refine(OP.out _ (HR.out.bel blw) (fun a h=>by have:=HP.out a h;simp;omega)).mono ?_
 rintro e w1 ⟨n,hn,rfl,hL,A2⟩
 simp at hn
 have A6:=A2.size
 (try simp at A6)
 have Ar:=bl5 A2 (w.heap.size)
 have Ab:=bl5 A2 (w.heap.size+1)
 have HL:=Lib.hid hL
 have hz1:=hL.st.lt
 clear hL
 go_wp2_with fail
 refine(AF.out n _ HL.out).mono ?_
 rintro e w2 ⟨rfl,A7⟩
 have Au:=A7.size_le
 have Av:=fun o=>A7.other (k:=w.heap.size) (o:=o) (by omega) (ne_addr (by omega))
 have Ak:=fun o=>A7.other (k:=w.heap.size+1) (o:=o) (by omega) (ne_addr (by omega))
 have Am:=fun o=>A7.free (k:=w.heap.size+1) (o:=o) (by omega)
 have Ad:Below w.heap.size w w2:=Below.trans (show Below w.heap.size w w1 from blw) (A7.below (by omega) (by omega))
 have HL2:=Lib.hid (HL.out.turn A7)
 have hz2:=HL2.out.st.lt
 have z2a:w.heap.size<w2.heap.size:=by omega
 have z2b:w.heap.size+1<w2.heap.size:=by omega
 have y2a:¬w.heap.size=w2.heap.size:=by omega
 have y2b:¬w.heap.size+1=w2.heap.size:=by omega
 clear HL A7
 go_wp2_with fail
 refine(AT.out n _ (HL2.out.bel blw)).mono ?_
 rintro e w3 ⟨rfl,A8⟩
 have Ao:=A8.size_le
 simp at Ao
 have Aw:=fun o=>A8.other (k:=w.heap.size) (o:=o) (by simp;omega) (ne_addr (by omega))
 have Al:=fun o=>A8.other (k:=w.heap.size+1) (o:=o) (by simp;omega) (ne_addr (by omega))
 have An:=fun o=>A8.free (k:=w.heap.size+1) (o:=o) (by simp;omega)
 have Ae:Below w.heap.size w w3:=Below.trans (show Below w.heap.size w _ from blw) (A8.below (by first|omega|(simp;omega)) (by first|omega|(simp;omega)))
 have HL3:=Lib.hid ((HL2.out.bel (show Below w2.heap.size w2 _ from blw)).turn A8)
 have hz3:=HL3.out.st.lt
 have b0:∀o,w3.cell? ⟨w.heap.size,o,none⟩=(#[.int .i64 A.ix,.int .i64 A.sl,.int .i64 A.sh,.int .i64 A.po,.int .i64 A.wl,.int .i64 A.wh,.slice A.pa A.ls.length A.cap,.int .i64 A.oi,.int .i64 A.ol]:Array Value)[o]?:=fun o=>by go_simp
 have b1:∀o,w3.cell? ⟨w.heap.size+1,o,none⟩=(#[.int .i64 0,.int .i64 0,.int .i64 0,.int .i64 0,.int .i64 0,.int .i64 0]:Array Value)[o]?:=fun o=>by go_simp
 have b2:∀o,w3.frozen? ⟨w.heap.size+1,o,none⟩=false:=fun o=>by go_simp
 have z3a:w.heap.size<w3.heap.size:=by omega
 have z3b:w.heap.size+1<w3.heap.size:=by omega
 have y3a:w.heap.size<w3.heap.size+1:=by omega
 have y3b:w.heap.size+1<w3.heap.size+1:=by omega
 clear HL2 A8 Aw Al An Av Ak Am
 go_wp2_with fail
 refine calm_two_idx 15 14 #[.int .i64 0,.int .i64 0] #[.int .i64 0,.int .i64 0] 23 23 _ _ _ _ rfl rfl rfl rfl _ rfl (by kernel_rfl) (by kernel_rfl) (by kernel_rfl) (fun _ _ _ _ h=>h) (fun a w=>by kernel_rfl) (fun a w=>by kernel_rfl) fun hG => ?_
 have Ac:=hG (w.heap.size+1) lto
 clear hG
 simp only[List.take_succ_cons,List.take_zero,List.drop_succ_cons,List.drop_zero]
 repeat (refine wpCalm_step (fun K hK => ?_);go_simp;first|(refine hK _ ?_;clear hK K)|(apply Exists.intro;refine⟨fun _ => ?_,hK _ ?_⟩;(first|(go_at_call 38;first|with_reducible exact cal_at (AZ.out n _ (HL3.out.bel (bl_call blw (below_regrown _ _ _))))|with_reducible exact cal_at (AY.out n _ (HL3.out.bel (bl_call blw (below_regrown _ _ _)))))|(go_at_call 37;first|with_reducible exact cal_at (PZ.out n _ (HL3.out.bel (bl_call blw (below_regrown _ _ _))).st)|with_reducible exact cal_at (PY.out n _ (HL3.out.bel (bl_call blw (below_regrown _ _ _))).st)));clear hK K))
 refine wpCalm_nil ?_
 intro B1 B2 w4 hN hM A5
 obtain⟨Aa,A3,Ax,Az,B3⟩:=hN
 obtain⟨_,A4,Ay,B0,B4⟩:=hM
 (try simp at A3 A4)
 have Aj:¬B2=B1:=Ne.symm A5
 clear Ac
 have Ap:=Aa.size
 (try simp at Ap)
 have As:=bl5 Aa (w.heap.size+1)
 have Ah:¬B1=w.heap.size+1:=by first|omega|(simp at A3;omega)
 have Af:¬w.heap.size+1=B1:=by first|omega|(simp at A3;omega)
 have Ai:¬B2=w.heap.size+1:=by first|omega|(simp at A4;omega)
 have Ag:¬w.heap.size+1=B2:=by first|omega|(simp at A4;omega)
 go_wp2_with fail
 refine(NO.out n _ (HL3.out.bel blw)).mono ?_
 rintro e w5 ⟨rfl,A9⟩
 have Aq:=A9.size
 (try simp at Aq)
 have At:=bl5 A9 (w.heap.size+1)
 have hc9:=(HL3.out.bel (show Below w3.heap.size w3 w5 from blw)).st.cell
 have hl9:=(HL3.out.bel (show Below w3.heap.size w3 w5 from blw)).st.lt
 have hn9:¬n=w5.heap.size:=(by omega)
 have hm9:¬w5.heap.size=n:=(by omega)
 go_wp2_with fail
 go_region_held3 (fun w'=>w'.cell? ⟨n,0,none⟩=some (.int .i64 T.q)) (simp[*,go_sem]) (fail)
 skip
 all_goals repeat' (first|go_values|go_skip|go_guarded|go_step|go_upon|(simp only[];go_simp))
 all_goals refine bodyPost_ret (ret_six _ _ (w.heap.size+1) (.int .i64 0) (.int .i64 0) (.int .i64 0) (.int .i64 0) (.int .i64 0) (.int .i64 0) (.int .i64 T.q) rfl rfl (by go_simp) (by go_simp) (by go_simp) (by go_simp) (by go_simp) (by go_simp)) rfl ?_
 all_goals exact⟨rfl,blw⟩
set_option maxRecDepth 100000 in
set_option maxHeartbeats 16000000 in
theorem SharesOf_zero (A:Ask) (hA:AskOk A) (qr:(ampR A false).q=0) (qt:(ampR A true).q=0) (hy:¬0<(admR 0 A ⟨A.ix,A.ix,0,0,0⟩).a-(admR 0 A ⟨A.ix,A.ix,0,0,0⟩).c) (w:World) (hr:Row A.pa A.ls w) (hpa:∀a,A.pa=some a→a.block<w.heap.size) :
  Calls Tryz.prog 10 #[A.val] w fun e w'=>e = .returned (.tuple #[zeroSix,.int .i64 9])∧Below w.heap.size w w':=by
 obtain⟨hw1,hw2⟩:=len_wrap2 hA.len
 obtain⟨qy,qz⟩:=amp_adm qr
 have qn:=adm_nor qz
 have OP:=fun w hr hpa=>open_any A hA w hr hpa
 have AF:=fun n=>(amp_no n A hA).low qr
 have AT:=fun n=>(amp_yes n A hA).low qt
 have AZ:=fun n=>(adm_any n 0 A (A.ls.length+1) _ hA (med_last A hA)).low qz
 have AY:=fun n=>(adm_any n 0 A 0 _ hA (med_front A hA)).low qy
 have NO:=fun n w (L:Lt n 0 A w)=>(normal_any n 0 A (A.ls.length+1) _ hA (med_last A hA) w L).mono fun E w' ⟨h1,h2⟩=>(⟨h1,by rw[qn]at h2;exact h2.low L.st.cell⟩:_∧Below w.heap.size w w')
 have fY:=fine_adm 0 A ⟨A.ix,A.ix,0,0,0⟩
 have fZ:=fine_adm 0 A ⟨A.oi,A.oi,0,0,A.ol⟩
 generalize ampR A false=R at *
 generalize ampR A true=T at *
 generalize admR 0 A ⟨A.ix,A.ix,0,0,0⟩=Y at *
 generalize admR 0 A ⟨A.oi,A.oi,0,0,A.ol⟩=Z at *
 generalize norR 0 A ⟨A.oi,A.oi,0,0,A.ol⟩=N at *
 generalize stopR 0 A ⟨A.oi,A.oi,0,0,A.ol⟩=st at *
 have PY:=fun n w (S:St n 0 w)=>(c_parts n 0 Y fY w S).mono fun E w' ⟨h1,h2⟩=>(⟨h1,h2.low S.cell⟩:_∧Below w.heap.size w w')
 have PZ:=fun n w (S:St n 0 w)=>(c_parts n 0 Z fZ w S).mono fun E w' ⟨h1,h2⟩=>(⟨h1,h2.low S.cell⟩:_∧Below w.heap.size w w')
 simp only[pt_zero]at PY PZ
 generalize Y.a-Y.c=f0 at *
 generalize Y.a+Y.c=f1 at *
 generalize Y.b-Y.c=f2 at *
 generalize Y.b+Y.c=f3 at *
 generalize Z.a-Z.c=u0 at *
 generalize Z.a+Z.c=u1 at *
 generalize Z.b-Z.c=u2 at *
 generalize Z.b+Z.c=u3 at *
 have n2:f0≤0:=by omega
 unfold zeroSix
 unfold Ask.val at OP ⊢
 have OP:=Lib.hid OP
 have AF:=Lib.hid AF
 have AT:=Lib.hid AT
 have AZ:=Lib.hid AZ
 have AY:=Lib.hid AY
 have NO:=Lib.hid NO
 have PY:=Lib.hid PY
 have PZ:=Lib.hid PZ
 have HR:=Lib.hid hr
 have HP:=Lib.hid hpa
 clear hr hpa hA qr qt qy qz qn fY fZ hy
 go_enter Tryz.func10,Tryz.ntmps10
 go_wp2_with fail
 refine(OP.out _ (HR.out.bel blw) (fun a h=>by have:=HP.out a h;simp;omega)).mono ?_
 rintro e w1 ⟨n,hn,rfl,hL,A2⟩
 simp at hn
 have A6:=A2.size
 (try simp at A6)
 have Ar:=bl5 A2 (w.heap.size)
 have Ab:=bl5 A2 (w.heap.size+1)
 have hz1:=hL.st.lt
 have HL:=Lib.hid hL
 clear hL
 go_wp2_with fail
 refine(AF.out n _ (HL.out.bel blw)).mono ?_
 rintro e w2 ⟨rfl,Ad⟩
 have Au:=Ad.size
 (try simp at Au)
 have B8:=bl5 Ad (w.heap.size)
 have B5:=bl5 Ad (w.heap.size+1)
 go_wp2_with fail
 refine(AT.out n _ (HL.out.bel blw)).mono ?_
 rintro e w3 ⟨rfl,Ae⟩
 have Ao:=Ae.size
 (try simp at Ao)
 have B9:=bl5 Ae (w.heap.size)
 have B6:=bl5 Ae (w.heap.size+1)
 go_wp2_with fail
 refine calm_two_idx 15 14 #[.int .i64 0,.int .i64 0] #[.int .i64 0,.int .i64 0] 23 23 _ _ _ _ rfl rfl rfl rfl _ rfl (by kernel_rfl) (by kernel_rfl) (by kernel_rfl) (fun _ _ _ _ h=>h) (fun a w=>by kernel_rfl) (fun a w=>by kernel_rfl) fun hG => ?_
 have Ac:=hG (w.heap.size+1) lto
 clear hG
 simp only[List.take_succ_cons,List.take_zero,List.drop_succ_cons,List.drop_zero]
 repeat (refine wpCalm_step (fun K hK => ?_);go_simp;first|(refine hK _ ?_;clear hK K)|(apply Exists.intro;refine⟨fun _ => ?_,hK _ ?_⟩;(first|(go_at_call 38;first|with_reducible exact cal_at (AZ.out n _ (HL.out.bel (bl_call blw (below_regrown _ _ _))))|with_reducible exact cal_at (AY.out n _ (HL.out.bel (bl_call blw (below_regrown _ _ _)))))|(go_at_call 37;first|with_reducible exact cal_at (PZ.out n _ (HL.out.bel (bl_call blw (below_regrown _ _ _))).st)|with_reducible exact cal_at (PY.out n _ (HL.out.bel (bl_call blw (below_regrown _ _ _))).st)));clear hK K))
 refine wpCalm_nil ?_
 intro B1 B2 w4 hN hM A5
 obtain⟨Aa,A3,Ax,Az,B3⟩:=hN
 obtain⟨_,A4,Ay,B0,B4⟩:=hM
 (try simp at A3 A4)
 have Aj:¬B2=B1:=Ne.symm A5
 clear Ac
 have Ap:=Aa.size
 (try simp at Ap)
 have As:=bl5 Aa (w.heap.size+1)
 have Ah:¬B1=w.heap.size+1:=by first|omega|(simp at A3;omega)
 have Af:¬w.heap.size+1=B1:=by first|omega|(simp at A3;omega)
 have Ai:¬B2=w.heap.size+1:=by first|omega|(simp at A4;omega)
 have Ag:¬w.heap.size+1=B2:=by first|omega|(simp at A4;omega)
 go_wp2_with fail
 refine(NO.out n _ (HL.out.bel blw)).mono ?_
 rintro e w5 ⟨rfl,A9⟩
 have Aq:=A9.size
 (try simp at Aq)
 have At:=bl5 A9 (w.heap.size+1)
 have B7:=bl5 A9 (B2)
 have hc9:=(HL.out.bel (show Below w1.heap.size w1 w5 from blw)).st.cell
 have hl9:=(HL.out.bel (show Below w1.heap.size w1 w5 from blw)).st.lt
 have hn9:¬n=w5.heap.size:=(by omega)
 have hm9:¬w5.heap.size=n:=(by omega)
 repeat' (first|go_values|go_skip|go_guarded|go_step|go_upon|(simp only[];go_simp))
 refine bodyPost_ret (ret_six _ _ (w.heap.size+1) (.int .i64 0) (.int .i64 0) (.int .i64 0) (.int .i64 0) (.int .i64 0) (.int .i64 0) (.int .i64 9) rfl rfl (by go_simp) (by go_simp) (by go_simp) (by go_simp) (by go_simp) (by go_simp)) rfl ?_
 exact⟨rfl,blw⟩
theorem SharesOf_any (A:Ask) (w:World) (hr:Row A.pa A.ls w) (hpa:∀a,A.pa=some a→a.block<w.heap.size) :
  Calls Tryz.prog 10 #[A.val] w fun e w'=>((∃q:Int,¬q=0∧e = .returned (.tuple #[zeroSix,.int .i64 q]))∨(AskOk A∧(ampR A false).q=0∧(ampR A true).q=0∧0<(admR 0 A ⟨A.ix,A.ix,0,0,0⟩).a-(admR 0 A ⟨A.ix,A.ix,0,0,0⟩).c ∧
   e = .returned (.tuple #[(shrOf (ampR A false) (ampR A true) (admR 0 A ⟨A.ix,A.ix,0,0,0⟩) (admR 0 A ⟨A.oi,A.oi,0,0,A.ol⟩) (stopR 0 A ⟨A.oi,A.oi,0,0,A.ol⟩) (lossy A)).val,.int .i64 0])))∧Below w.heap.size w w':=by
 by_cases c:ckQ A=0
 case neg=>exact(SharesOf_wrong A c w hr).mono fun e w' ⟨h1,h2⟩=>⟨.inl ⟨_,c,h1⟩,h2⟩
 have hA:=ckQ_ok c
 by_cases d:(ampE (ampR A false).q A true).q=0
 case neg=>exact(SharesOf_bad A hA _ rfl d w hr hpa).mono fun e w' ⟨h1,h2⟩=>⟨.inl ⟨_,d,h1⟩,h2⟩
 have qr:(ampR A false).q=0:=by
  by_cases k:(ampR A false).q=0
  ·exact k
  ·rw[ampE_dead k]at d;exact d
 rw[qr,ampE_zero]at d
 by_cases f:0<(admR 0 A ⟨A.ix,A.ix,0,0,0⟩).a-(admR 0 A ⟨A.ix,A.ix,0,0,0⟩).c
 ·exact(SharesOf_ok A hA qr d f w hr hpa).mono fun e w' ⟨h1,h2⟩=>⟨.inr ⟨hA,qr,d,f,h1⟩,h2⟩
 ·exact(SharesOf_zero A hA qr d f w hr hpa).mono fun e w' ⟨h1,h2⟩=>⟨.inl ⟨9,by decide,h1⟩,h2⟩
end Go.Proofs.YticobgianbecpaaGreatDoor
namespace Go.Proofs.YticobgianbecpaaGreatDoor
open Go Go.Sort Go.RowKit
@[irreducible] def shr (A:Ask):Shr:=shrOf (ampR A false) (ampR A true) (admR 0 A ⟨A.ix,A.ix,0,0,0⟩) (admR 0 A ⟨A.oi,A.oi,0,0,A.ol⟩) (stopR 0 A ⟨A.oi,A.oi,0,0,A.ol⟩) (lossy A)
structure ShrOk (A:Ask):Prop where
 ok:AskOk A
 q1:(ampR A false).q=0
 q2:(ampR A true).q=0
 y:0<(admR 0 A ⟨A.ix,A.ix,0,0,0⟩).a-(admR 0 A ⟨A.ix,A.ix,0,0,0⟩).c
theorem lossy_mv (A:Ask) (p:Option Addr) (c:Nat):lossy (A.mv p c)=lossy A:=by unfold lossy;simp only[med_mv]
theorem shr_mv (A:Ask) (p:Option Addr) (c:Nat):shr (A.mv p c)=shr A:=by unfold shr;simp only[amp_mv,adm_mv,stop_mv,lossy_mv]
theorem ShrOk.back {A:Ask}{p:Option Addr}{c:Nat} (h:ShrOk (A.mv p c)):ShrOk A:=by
 obtain⟨h0,h1,h2,h3⟩:=h
 rw[amp_mv]at h1 h2
 rw[adm_mv]at h3
 exact⟨mv_ok h0,h1,h2,h3⟩
theorem SharesOf_at (A:Ask) (g c:Nat) (w:World) (hr:Row (some ⟨g,0,none⟩) A.ls w) (hg:g<w.heap.size) :
  Calls Tryz.prog 10 #[(A.mv (some ⟨g,0,none⟩) c).val] w fun e w'=>((∃q:Int,¬q=0∧e = .returned (.tuple #[zeroSix,.int .i64 q]))∨(ShrOk A∧e = .returned (.tuple #[(shr A).val,.int .i64 0])))∧Below w.heap.size w w':=by
 refine(SharesOf_any (A.mv (some ⟨g,0,none⟩) c) w hr (fun a h=>by cases h;exact hg)).mono ?_
 rintro e w' ⟨h|⟨h0,h1,h2,h3,h4⟩,hb⟩
 ·exact⟨.inl h,hb⟩
 ·refine⟨.inr ⟨(show ShrOk (A.mv (some ⟨g,0,none⟩) c)from⟨h0,h1,h2,h3⟩).back,?_⟩,hb⟩
  rw[← shr_mv A (some ⟨g,0,none⟩) c]
  unfold shr
  exact h4
theorem recip_shr {A:Ask} (q:otherQ A=0) (p:Option Addr) (c:Nat) (h:ShrOk A) (k:ShrOk (other A p c)) :
  max (shr A).t0 (shr (other A p c)).t0≤min (shr A).t1 (shr (other A p c)).t1∧((∀b∈A.ls,b.lo=0)→max (shr A).r0 (shr (other A p c)).r0≤min (shr A).r1 (shr (other A p c)).r1):=by
 obtain⟨⟨s1,s2⟩,h1,h2⟩:=recip_over h.ok q p c h.q1 h.q2 k.q1 k.q2 h.y k.y
 have s2':stopR 0 (other A p c) ⟨(other A p c).oi,(other A p c).oi,0,0,(other A p c).ol⟩=false:=s2
 unfold shr shrOf
 dsimp only
 rw[s1,s2']
 have sn:∀t,shS false t=t:=fun t=>by unfold shS;rw[if_neg (by decide)]
 simp only[sn]
 exact⟨h1,h2⟩
end Go.Proofs.YticobgianbecpaaGreatDoor
namespace Go.Proofs.YticobgianbecpaaGreatDoor
open Go Go.Sort Go.RowKit
set_option maxHeartbeats 4000000 in
theorem overlap_any (a b c d:Int) (w:World):Calls Tryz.prog 20 #[.agg #[.int .i64 a,.int .i64 b],.agg #[.int .i64 c,.int .i64 d]] w fun e w'=>e = .returned (.bool (decide (max a c≤min b d)))∧Below w.heap.size w w':=by
 go_enter Tryz.func20,Tryz.ntmps20
 go_wp2
 (with_reducible show bodyPost _ _ _ _ _ _);refine bodyPost_ret (by simp[results,Tryz.results20,go_sem, *];first|done|rfl) rfl ?_
 exact⟨rfl,blw⟩
end Go.Proofs.YticobgianbecpaaGreatDoor
