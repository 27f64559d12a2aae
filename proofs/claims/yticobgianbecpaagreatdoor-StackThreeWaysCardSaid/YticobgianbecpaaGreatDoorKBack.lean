/- Joined: BackLaw BackMeet RevMeet. -/
import Derived.Test.YticobgianbecpaaGreatDoorKTrue
import Derived.Test.YticobgianbecpaaGreatDoorKSee
import Derived.Test.YticobgianbecpaaGreatDoorKOther
namespace Go.Proofs.YticobgianbecpaaGreatDoor
theorem M4.ext' {a b:M4} (h0:a.m0=b.m0) (h1:a.m1=b.m1) (h2:a.m2=b.m2) (h3:a.m3=b.m3):a=b:=by cases a;cases b;simp at *;exact⟨h0,h1,h2,h3⟩
theorem cq_add (a b:Cq):a+b=b+a:=by apply Cq.ext'<;>simp<;>grind
theorem cq_assoc (a b c:Cq):a+b+c=a+(b+c):=by apply Cq.ext'<;>simp<;>grind
theorem cq_left (a b c:Cq):a*(b+c)=a*b+a*c:=by apply Cq.ext'<;>simp<;>grind
theorem cq_right (a b c:Cq):(a+b)*c=a*c+b*c:=by apply Cq.ext'<;>simp<;>grind
def oneM:M4:=⟨Cq.one,zr,zr,Cq.one⟩
theorem mul_one4 (m:M4):mulC m oneM=m:=by
 unfold mulC oneM zr
 apply M4.ext'<;>(apply Cq.ext'<;>simp<;>grind)
theorem one_mul4 (m:M4):mulC oneM m=m:=by
 unfold mulC oneM zr
 apply M4.ext'<;>(apply Cq.ext'<;>simp<;>grind)
theorem mul_assoc4 (a b c:M4):mulC (mulC a b) c=mulC a (mulC b c):=by
 unfold mulC
 apply M4.ext'<;>dsimp only<;>(apply Cq.ext'<;>simp<;>grind)
def tauC (m:M4):M4:=⟨m.m3,m.m1,m.m2,m.m0⟩
theorem tau_mul (a b:M4):tauC (mulC a b)=mulC (tauC b) (tauC a):=by
 unfold tauC mulC
 apply M4.ext'<;>dsimp only<;>(apply Cq.ext'<;>simp<;>grind)
theorem tau_mat (y g:Cq):tauC (matC y g)=matC y g:=rfl
theorem tau_one:tauC oneM=oneM:=rfl
def prodC:List (Cq × Cq)→M4
 | []=>oneM
 | x::l=>mulC (matC x.1 (x.2*x.2)) (prodC l)
def facC:List (Cq × Cq)→Cq
 | []=>Cq.one
 | x::l=>x.2*facC l
theorem prod_cons (x:Cq × Cq) (l:List (Cq × Cq)):prodC (x::l)=mulC (matC x.1 (x.2*x.2)) (prodC l):=rfl
theorem fac_cons (x:Cq × Cq) (l:List (Cq × Cq)):facC (x::l)=x.2*facC l:=rfl
theorem run_is:∀(l:List (Cq × Cq)) (s:M4 × Cq),runC s l=(mulC s.1 (prodC l),s.2*facC l)
 | [],s=>by unfold runC prodC facC;rw[mul_one4,Cq.mul_one]
 | x::l,s=>by
  unfold runC prodC facC
  rw[run_is l]
  unfold stepC
  dsimp only
  rw[mul_assoc4,Cq.mul_assoc]
theorem prod_app:∀(l k:List (Cq × Cq)),prodC (l++k)=mulC (prodC l) (prodC k)
 | [],k=>by unfold prodC;rw[List.nil_append,one_mul4]
 | x::l,k=>by rw[List.cons_append,prod_cons,prod_cons,prod_app l k,mul_assoc4]
theorem fac_app:∀(l k:List (Cq × Cq)),facC (l++k)=facC l*facC k
 | [],k=>by unfold facC;rw[List.nil_append,Cq.one_mul]
 | x::l,k=>by rw[List.cons_append,fac_cons,fac_cons,fac_app l k,Cq.mul_assoc]
theorem prod_rev:∀l:List (Cq × Cq),prodC l.reverse=tauC (prodC l)
 | []=>rfl
 | x::l=>by
  rw[List.reverse_cons,prod_app,prod_rev l,prod_cons,prod_cons,tau_mul,tau_mat]
  show mulC _ (mulC _ oneM)=_
  rw[mul_one4]
theorem fac_rev:∀l:List (Cq × Cq),facC l.reverse=facC l
 | []=>rfl
 | x::l=>by
  rw[List.reverse_cons,fac_app,fac_rev l,fac_cons,fac_cons]
  show _*(_*Cq.one)=_
  rw[Cq.mul_one,Cq.mul_comm]
theorem ad_congr {P Q:PA} (h:siN P=siN Q) (hp:P.po=Q.po) (p:PL) (n:Nat):adN P p n=adN Q p n:=by
 unfold adN noN nsN
 rw[h,hp]
theorem fa_congr {P Q:PA} (h:siN P=siN Q) (hw:P.wv=Q.wv) (p:PL) (n:Nat):faN P p n=faN Q p n:=by
 have e1:turT P p=turT Q p:=by funext m;unfold turT noN nsN;rw[h,hw]
 have e2:fadT P p=fadT Q p:=by funext m;unfold fadT noN nsN;rw[h,hw]
 unfold faN turL fadL
 rw[e1,e2]
structure Back (P Q:PA):Prop where
 si:siN P=siN Q
 po:P.po=Q.po
 wv:P.wv=Q.wv
 ls:Q.ls=P.ls.reverse
 f:frontP Q=backP P
 b:backP Q=frontP P
theorem lay_back {P Q:PA} (h:Back P Q) (n:Nat):Q.ls.map (layC Q n)=(P.ls.map (layC P n)).reverse:=by
 rw[h.ls,List.map_reverse]
 congr 1
 apply List.map_congr_left
 intro p _
 unfold layC
 rw[ad_congr h.si h.po,fa_congr h.si h.wv]
theorem thr_back {P Q:PA} (h:Back P Q) (n:Nat):thrN Q n=(tauC (thrN P n).1,(thrN P n).2):=by
 unfold thrN
 rw[run_is,run_is,lay_back h,prod_rev,fac_rev]
 dsimp only
 have e:(⟨Cq.one,zr,zr,Cq.one⟩:M4)=oneM:=rfl
 rw[e,one_mul4,one_mul4]
theorem amps_back {P Q:PA} (h:Back P Q) (n:Nat):adN P (backP P) n*ampN P true n=adN P (frontP P) n*ampN Q true n:=by
 unfold ampN
 rw[thr_back h,h.f,h.b,← ad_congr h.si h.po,← ad_congr h.si h.po]
 unfold ampC tauC
 simp only[if_true]
 generalize adN P (frontP P) n=y
 generalize adN P (backP P) n=z
 generalize thrN P n=T
 obtain⟨⟨a,b,c,d⟩,F⟩:=T
 dsimp only
 have e:z*(d+b*y)+(c+a*y)=y*(a+b*z)+(c+d*z):=by apply Cq.ext'<;>simp<;>grind
 rw[e]
 generalize (y*(a+b*z)+(c+d*z)).inv=D
 apply Cq.ext'<;>simp<;>grind
structure Turns (m:M4) (F:Cq):Prop where
 t0:m.m0.conj*F=m.m0*F.conj
 t1:m.m1.conj*F = -(m.m1*F.conj)
 t2:m.m2.conj*F = -(m.m2*F.conj)
 t3:m.m3.conj*F=m.m3*F.conj
theorem conj_mul (a b:Cq):(a*b).conj=a.conj*b.conj:=by apply Cq.ext'<;>simp<;>grind
theorem conj_add (a b:Cq):(a+b).conj=a.conj+b.conj:=by apply Cq.ext'<;>simp<;>grind
theorem turn_pp {a b F G:Cq}{s t:Rat} (h:a.conj*F=(a*F.conj).scale s) (k:b.conj*G=(b*G.conj).scale t):(a*b).conj*(F*G)=(a*b*(F*G).conj).scale (s*t):=by
 have e:(a*b).conj*(F*G)=(a.conj*F)*(b.conj*G):=by apply Cq.ext'<;>simp<;>grind
 rw[e,h,k]
 apply Cq.ext'<;>simp<;>grind
theorem neg_scale (a:Cq) : -a=a.scale (-1):=by apply Cq.ext'<;>simp<;>grind
theorem one_scale (a:Cq):a=a.scale 1:=by apply Cq.ext'<;>simp<;>grind
theorem turn_sum {a b F:Cq}{s:Rat} (h:a.conj*F=(a*F.conj).scale s) (k:b.conj*F=(b*F.conj).scale s):(a+b).conj*F=((a+b)*F.conj).scale s:=by
 have e:(a+b).conj*F=a.conj*F+b.conj*F:=by apply Cq.ext'<;>simp<;>grind
 rw[e,h,k]
 apply Cq.ext'<;>simp<;>grind
theorem Turns.mul {a b:M4}{F G:Cq} (h:Turns a F) (k:Turns b G):Turns (mulC a b) (F*G):=by
 obtain⟨h0,h1,h2,h3⟩:=h
 obtain⟨k0,k1,k2,k3⟩:=k
 rw[neg_scale]at h1 h2 k1 k2
 rw[one_scale (a.m0*F.conj)]at h0
 rw[one_scale (a.m3*F.conj)]at h3
 rw[one_scale (b.m0*G.conj)]at k0
 rw[one_scale (b.m3*G.conj)]at k3
 unfold mulC
 have r1:(1:Rat)*1=1:=by decide +kernel
 have r2:(-1:Rat) * -1=1:=by decide +kernel
 have r3:(1:Rat) * -1 = -1:=by decide +kernel
 have r4:(-1:Rat)*1 = -1:=by decide +kernel
 have p00:=turn_pp h0 k0
 have p12:=turn_pp h1 k2
 have p01:=turn_pp h0 k1
 have p13:=turn_pp h1 k3
 have p20:=turn_pp h2 k0
 have p32:=turn_pp h3 k2
 have p21:=turn_pp h2 k1
 have p33:=turn_pp h3 k3
 rw[r1]at p00 p33
 rw[r2]at p12 p21
 rw[r3]at p01 p32
 rw[r4]at p13 p20
 refine⟨?_,?_,?_,?_⟩
 ·have:=turn_sum p00 p12;rw[← one_scale]at this;exact this
 ·have:=turn_sum p01 p13;rw[← neg_scale]at this;exact this
 ·have:=turn_sum p20 p32;rw[← neg_scale]at this;exact this
 ·have:=turn_sum p21 p33;rw[← one_scale]at this;exact this
theorem Turns.one:Turns oneM Cq.one:=by
 unfold oneM zr
 exact⟨cq_eq (by decide +kernel),cq_eq (by decide +kernel),cq_eq (by decide +kernel),cq_eq (by decide +kernel)⟩
theorem Turns.go {y f:Cq} (hy:y.im=0) (hn:f.nrm=1):Turns (matC y (f*f)) f:=by
 unfold Cq.nrm at hn
 have hi:y.inv.im=0:=by
  unfold Cq.inv
  dsimp only
  rw[hy]
  grind
 unfold matC hf
 refine⟨?_,?_,?_,?_⟩<;>dsimp only<;>generalize y.inv=Y at * <;> (apply Cq.ext'<;>simp<;>grind)
theorem Turns.stop {y f:Cq} (hy:y.re=0) (hn:f.im=0):Turns (matC y (f*f)) f:=by
 have hi:y.inv.re=0:=by
  unfold Cq.inv
  dsimp only
  rw[hy]
  grind
 unfold matC hf
 refine⟨?_,?_,?_,?_⟩<;>dsimp only<;>generalize y.inv=Y at * <;> (apply Cq.ext'<;>simp<;>grind)
theorem turns_prod:∀ {k:List (Cq × Cq)},(∀x∈k,Turns (matC x.1 (x.2*x.2)) x.2)→Turns (prodC k) (facC k)
 | [],_=>Turns.one
 | _::_,h=>(h _ (List.mem_cons_self ..)).mul (turns_prod fun y hy=>h y (List.mem_cons_of_mem _ hy))
theorem rev_law {P Q:PA} (h:Back P Q) (n:Nat) (hy:(adN P (frontP P) n).im=0) (hz:(adN P (backP P) n).im=0) (ht:∀x∈P.ls.map (layC P n),Turns (matC x.1 (x.2*x.2)) x.2) :
  ampN Q false n*(ampN P true n).conj = -((ampN P false n).conj*ampN P true n):=by
 have tp:=turns_prod ht
 unfold ampN
 rw[thr_back h,h.f,h.b,← ad_congr h.si h.po,← ad_congr h.si h.po]
 have e:thrN P n=(prodC (P.ls.map (layC P n)),facC (P.ls.map (layC P n))):=by
  unfold thrN
  rw[run_is]
  dsimp only
  have e:(⟨Cq.one,zr,zr,Cq.one⟩:M4)=oneM:=rfl
  rw[e,one_mul4,Cq.one_mul]
 rw[e]
 unfold ampC tauC
 simp only[if_true,Bool.false_eq_true,if_false]
 generalize adN P (frontP P) n=y at *
 generalize adN P (backP P) n=z at *
 generalize prodC (P.ls.map (layC P n))=T at *
 generalize facC (P.ls.map (layC P n))=F at *
 obtain⟨a,b,c,d⟩:=T
 obtain⟨t0,t1,t2,t3⟩:=tp
 dsimp only at t0 t1 t2 t3 ⊢
 have e:z*(d+b*y)+(c+a*y)=y*(a+b*z)+(c+d*z):=by apply Cq.ext'<;>simp<;>grind
 rw[e]
 generalize (y*(a+b*z)+(c+d*z)).inv=D
 have key:(z*(d+b*y)-(c+a*y))*F.conj = -((y*(a+b*z)-(c+d*z)).conj*F):=by
  have cy:y.conj=y:=by apply Cq.ext'<;>simp[hy]
  have cz:z.conj=z:=by apply Cq.ext'<;>simp[hz]
  have e1:(y*(a+b*z)-(c+d*z)).conj*F=y.conj*(a.conj*F)+y.conj*z.conj*(b.conj*F)-c.conj*F-z.conj*(d.conj*F):=by apply Cq.ext'<;>simp<;>grind
  rw[e1,t0,t1,t2,t3,cy,cz]
  apply Cq.ext'<;>simp<;>grind
 have cy:y.conj=y:=by apply Cq.ext'<;>simp[hy]
 have e2:(z*(d+b*y)-(c+a*y))*D*((y+y)*F*D).conj=((z*(d+b*y)-(c+a*y))*F.conj)*(D*(y.conj+y.conj)*D.conj):=by apply Cq.ext'<;>simp<;>grind
 have e3 : -(((y*(a+b*z)-(c+d*z))*D).conj*((y+y)*F*D)) = -((y*(a+b*z)-(c+d*z)).conj*F)*(D*(y+y)*D.conj):=by apply Cq.ext'<;>simp<;>grind
 rw[e2,e3,key,cy]
end Go.Proofs.YticobgianbecpaaGreatDoor
namespace Go.Proofs.YticobgianbecpaaGreatDoor
theorem lays_ex:∀ {ls:List Box},(∀b∈ls,BoxOk b)→∃ps,Lays ps ls
 | [],_=>⟨[],.nil⟩
 | b::l,h=>by
  obtain⟨ps,hp⟩:=lays_ex (ls:=l) (fun c hc=>h c (List.mem_cons_of_mem _ hc))
  obtain⟨h0,h1,_,_,h4,h5,h6,_⟩:=h b (List.mem_cons_self ..)
  exact⟨⟨b.il,b.tl,b.lo⟩::ps,.cons ⟨⟨Int.le_refl _,by omega,Int.le_refl _,by omega,rfl⟩,by show(0:Int)≤b.il;omega,by show(0:Int)≤b.lo;omega,by omega⟩ hp⟩
theorem Lays.app {ps qs:List PL}{cs bs:List Box} (h:Lays ps cs) (k:Lays qs bs):Lays (ps++qs) (cs++bs):=by
 induction h with
 | nil=>exact k
 | cons h _ ih=>exact .cons h ih
theorem Lays.rev {ps:List PL}{bs:List Box} (h:Lays ps bs):Lays ps.reverse bs.reverse:=by
 induction h with
 | nil=>exact .nil
 | cons h _ ih =>
  rw[List.reverse_cons,List.reverse_cons]
  exact ih.app (.cons h .nil)
def ptA (A:Ask) (ps:List PL):PA:=⟨A.ix,A.sl,A.po,A.wl,ps,A.oi,A.ol⟩
def ptB (A:Ask) (ps:List PL):PA:=⟨A.oi,A.ix*A.sl/A.oi,A.po,A.wl,ps.reverse,A.ix,0⟩
theorem ptA_ok {A:Ask} (a:AskOk A){ps:List PL} (h:Lays ps A.ls):(ptA A ps).ok A :=
 ⟨⟨rfl,Int.le_refl _,a.s1,rfl,Int.le_refl _,a.w1,h.all,rfl,rfl⟩,h,Int.le_trans (by decide) a.i0,Int.le_trans (by decide) a.w0,Int.le_trans (by decide) a.oi0,a.ol0⟩
theorem ptB_ok {A:Ask} (a:AskOk A) (q:otherQ A=0){ps:List PL} (h:Lays ps A.ls) (p:Option Addr) (c:Nat):(ptB A ps).ok (other A p c):=by
 have o:=other_ok a q p c
 exact⟨⟨rfl,Int.le_refl _,o.s1,rfl,Int.le_refl _,a.w1,h.rev.all,rfl,rfl⟩,h.rev,Int.le_trans (by decide) o.i0,Int.le_trans (by decide) a.w0,Int.le_trans (by decide) o.oi0,Int.le_refl _⟩
theorem pt_back {A:Ask} (q:otherQ A=0) (ps:List PL):Back (ptA A ps) (ptB A ps):=by
 obtain⟨h1,h2,_,_⟩:=otherQ_zero q
 have e:A.oi*(A.ix*A.sl/A.oi)=A.ix*A.sl:=Int.mul_ediv_cancel' (Int.dvd_of_emod_eq_zero h2)
 refine⟨?_,rfl,rfl,rfl,?_,rfl⟩
 ·unfold siN ptA ptB
  dsimp only
  rw[e]
 ·unfold frontP backP ptA ptB
  dsimp only
  rw[h1]
def Close (X Z:Res):Prop:=(X.a-Z.a)*(X.a-Z.a)+(X.b-Z.b)*(X.b-Z.b)≤(X.c+Z.c)*(X.c+Z.c)
theorem amps_meet {A:Ask} (a:AskOk A) (q:otherQ A=0) (p:Option Addr) (c:Nat) (q1:(ampR A true).q=0) (q2:(ampR (other A p c) true).q=0) (q3:(admR 0 A (A.med 0)).q=0) (q4:(admR 0 A (A.med (A.ls.length+1))).q=0)
  (q5:(ti (admR 0 A (A.med (A.ls.length+1))) (ampR A true)).q=0) (q6:(ti (admR 0 A (A.med 0)) (ampR (other A p c) true)).q=0) :
  Close (ti (admR 0 A (A.med (A.ls.length+1))) (ampR A true)) (ti (admR 0 A (A.med 0)) (ampR (other A p c) true)):=by
 unfold Close
 obtain⟨ps,hp⟩:=lays_ex a.ls
 have b:=pt_back q ps
 have P:=ptA_ok a hp
 have i1:=(in_amp P q1).1
 have i2:=(in_amp (ptB_ok a q hp p c) q2).1
 have i3:In (admR 0 A (A.med 0)) (adN (ptA A ps) (frontP (ptA A ps))) :=
  (in_adm P.i P.ix (by rw[med_zero];exact⟨Int.le_refl _,Int.le_refl _,Int.le_refl _,Int.le_refl _,rfl⟩) P.ix (Int.le_refl _) q3).2.1
 have i4:In (admR 0 A (A.med (A.ls.length+1))) (adN (ptA A ps) (backP (ptA A ps))) :=
  (in_adm P.i P.ix (by rw[med_past];exact⟨Int.le_refl _,Int.le_refl _,Int.le_refl _,Int.le_refl _,rfl⟩) P.oi P.ol q4).2.1
 have j1:=in_ti i4 i1 q5
 have j2:=in_ti i3 i2 q6
 have e:(fun n=>adN (ptA A ps) (backP (ptA A ps)) n*ampN (ptA A ps) true n)=fun n=>adN (ptA A ps) (frontP (ptA A ps)) n*ampN (ptB A ps) true n:=funext fun n=>amps_back b n
 rw[e]at j1
 exact j1.meet j2
end Go.Proofs.YticobgianbecpaaGreatDoor
namespace Go.Proofs.YticobgianbecpaaGreatDoor
@[irreducible] def ng (R:Res):Res:=turnedM R.a R.b R.c 2
theorem ng_is {R:Res} (h:Fine R):ng R = .good (-R.a) (-R.b) R.c:=by
 unfold ng turnedM
 rw[one_val h.right,if_pos (by unfold inPart;omega),show qu 2=2 by decide,(tu2 _ _).1,(tu2 _ _).2]
 have r:=h.right
 have k:Right (-R.a) (-R.b) R.c:=by unfold Right Fits at r ⊢;omega
 unfold fin
 rw[if_neg (by decide),if_pos k]
theorem ng_right {R:Res} (h:Fine R):Right (-R.a) (-R.b) R.c:=by have r:=h.right;unfold Right Fits at r ⊢;omega
theorem fine_ng {R:Res} (h:Fine R):Fine (ng R):=by rw[ng_is h];exact ng_right h
theorem ng_q {R:Res} (h:Fine R):(ng R).q=0:=by rw[ng_is h];exact(quad_good _ _ _).2.2.2
theorem in_ng {R:Res}{z:Nat→Cq} (h:In R z):In (ng R) fun n => -(z n):=by
 refine⟨fine_ng h.1,ng_q h.1,fun d hd => ?_⟩
 rw[ng_is h.1]
 obtain⟨e1,e2,e3,_⟩:=quad_good (-R.a) (-R.b) R.c
 rw[e1,e2,e3]
 refine(h.2.2 d hd).mono fun n p => ?_
 exact p.neg.cast (by apply Cq.ext'<;>simp<;>grind) (by apply Cq.ext'<;>simp) (by grind)
theorem flo_zero {t:Nat→Rat} (h:∀n,t n=0):flo t=0:=by
 have sp:=flo_spec (t:=t) (fun n=>by rw[h];exact Rat.le_refl) (B:=0) (Ev.of fun n=>by rw[h];exact Rat.le_refl)
 have h1:=sp.2 0 fun d hd=>Ev.of fun n=>by rw[h];push_cast;grind
 have h2:flo t≤0:=int_le (y:=0) 1 (by decide) fun d hd _=>by
  obtain⟨n,p⟩:=(sp.1 d hd).ex
  rw[h]at p
  push_cast
  grind
 omega
theorem flo_none:fLo 0=1048576:=by decide +kernel
theorem ph_zero:phN 0=1:=by
 obtain⟨_,h1,h2⟩:=phN_spec (Int.le_refl 0)
 have k:=(h2 0 0 (Int.le_refl _) (Int.le_refl _) (Int.le_refl _)).1.1
 rw[flo_none]at k
 push_cast at k
 grind
theorem im_mul {a b:Cq} (ha:a.im=0) (hb:b.im=0):(a*b).im=0:=by simp only[Cq.mul_im,ha,hb];grind
theorem inv_im {y:Cq} (hy:y.im=0):y.inv.im=0:=by unfold Cq.inv;dsimp only;rw[hy];grind
theorem inv_re {y:Cq} (hy:y.re=0):y.inv.re=0:=by unfold Cq.inv;dsimp only;rw[hy];grind
theorem id_im {p:PL} (h:p.l=0):(idN p).im=0:=by unfold idN;dsimp only;rw[h];push_cast;grind
theorem ad_im {P:PA}{p:PL} (hl:p.l=0) (hn:∀n,(noN P p n).im=0) (n:Nat):(adN P p n).im=0:=by
 unfold adN
 split
 ·exact hn n
 ·exact im_mul (im_mul (id_im hl) (id_im hl)) (inv_im (hn n))
theorem ad_re {P:PA}{p:PL} (hl:p.l=0) (hn:∀n,(noN P p n).re=0) (n:Nat):(adN P p n).re=0:=by
 unfold adN
 split
 ·exact hn n
 ·have i:=im_mul (id_im hl) (id_im hl)
  have r:=inv_re (hn n)
  generalize idN p*idN p=a at *
  generalize (noN P p n).inv=b at *
  simp only[Cq.mul_re,i,r]
  grind
theorem no_real {P:PA}{p:PL} (h0:0≤p.n) (hl:p.l=0):(0≤(nsN P p).re→∀n,(noN P p n).im=0)∧((nsN P p).re≤0→∀n,(noN P p n).re=0):=by
 have rs:=rootN_spec (ns_nn (P:=P) h0 (show 0≤p.l by omega))
 have im0:(nsN P p).im=0:=by rw[ns_im,hl];push_cast;grind
 have rl:=rs.real im0
 exact⟨fun h n=>(rl n).1 h,fun h n=>(rl n).2 h⟩
theorem lay_turns {P:PA}{p:PL} (h0:0≤p.n) (hl:p.l=0) (n:Nat):Turns (matC (layC P n p).1 ((layC P n p).2*(layC P n p).2)) (layC P n p).2:=by
 obtain⟨r1,r2⟩:=no_real (P:=P) h0 hl
 unfold layC
 dsimp only
 rcases Rat.le_total (a:=0) (b:=(nsN P p).re)with c|c
 ·have i:=r1 c
  refine Turns.go (ad_im hl i n) ?_
  have z:fadL P p=0:=by unfold fadL;exact flo_zero fun m=>by unfold fadT;rw[i];grind
  unfold faN
  rw[z,ph_zero,Cq.nrm_scale,(uN_spec (turL P p)).1 n]
  decide +kernel
 ·have i:=r2 c
  refine Turns.stop (ad_re hl i n) ?_
  have z:turL P p=0:=by unfold turL;exact flo_zero fun m=>by unfold turT;rw[i];grind
  unfold faN
  rw[z,uN_zero]
  simp
theorem ns_outer {P:PA}{m s:Int} (hs:P.ix*P.s=m*s) (m0:0≤m) (s0:0≤s) (s1:s≤9999):0≤(nsN P ⟨m,0,0⟩).re:=by
 unfold nsN idN siN
 rw[hs]
 have i0:=rint _ _ m0
 have i1:=rint _ _ (Int.mul_nonneg m0 s0)
 have i2:=rint _ _ (Int.mul_le_mul_of_nonneg_left (show s≤10000 by omega) m0)
 push_cast at i0 i1 i2
 have q:=rsq_mono (a:=((m*s:Int):Rat)/100000000) (b:=(m:Rat)/(10000:Int)) (by push_cast;grind) (by push_cast;grind)
 push_cast at q ⊢
 simp
 grind
theorem Lays.nl {ps:List PL}{bs:List Box} (h:Lays ps bs) (nl:∀b∈bs,b.lo=0):∀p∈ps,0≤p.n∧p.l=0:=by
 induction h with
 | nil=>intro p hp;cases hp
 | cons h _ ih =>
  intro p hp
  rcases List.mem_cons.1 hp with rfl|hp
  ·exact⟨h.n,h.i.l0.symm.trans (nl _ (List.mem_cons_self ..))⟩
  ·exact ih (fun b hb=>nl b (List.mem_cons_of_mem _ hb)) p hp
theorem rev_meet {A:Ask} (a:AskOk A) (nl:∀b∈A.ls,b.lo=0) (q:otherQ A=0) (p:Option Addr) (c:Nat) (q1:(ampR A false).q=0) (q2:(ampR A true).q=0) (q3:(ampR (other A p c) false).q=0)
  (q5:(ti (ampR (other A p c) false) (cj (ampR A true))).q=0) (q6:(ti (cj (ampR A false)) (ampR A true)).q=0) :
  Close (ti (ampR (other A p c) false) (cj (ampR A true))) (ng (ti (cj (ampR A false)) (ampR A true))):=by
 unfold Close
 obtain⟨ps,hp⟩:=lays_ex a.ls
 have b:=pt_back q ps
 have P:=ptA_ok a hp
 obtain⟨z1,z2,z3,z4⟩:=otherQ_zero q
 have o:=other_ok a q p c
 have i1:=(in_amp P q1).1
 have i2:=(in_amp P q2).1
 have i3:=(in_amp (ptB_ok a q hp p c) q3).1
 have j1:=in_ti i3 (in_cj i2 (cj_good i2.1)) q5
 have j2:=in_ng (in_ti (in_cj i1 (cj_good i1.1)) i2 q6)
 have e:A.oi*(A.ix*A.sl/A.oi)=A.ix*A.sl:=Int.mul_ediv_cancel' (Int.dvd_of_emod_eq_zero z2)
 have fy:∀n,(adN (ptA A ps) (frontP (ptA A ps)) n).im=0:=ad_im rfl ((no_real P.ix rfl).1 (ns_outer (m:=A.ix) (s:=A.sl) rfl P.ix a.s0 (Int.le_trans a.s1 a.s2)))
 have fz:∀n,(adN (ptA A ps) (backP (ptA A ps)) n).im=0:=by
  have hl:(backP (ptA A ps)).l=0:=z1
  have e0:backP (ptA A ps)=⟨A.oi,0,0⟩:=by unfold backP ptA;dsimp only;rw[z1]
  refine ad_im hl ((no_real P.oi hl).1 ?_)
  rw[e0]
  exact ns_outer (s:=A.ix*A.sl/A.oi) e.symm P.oi o.s0 (Int.le_trans o.s1 o.s2)
 have lt:∀n,∀x∈(ptA A ps).ls.map (layC (ptA A ps) n),Turns (matC x.1 (x.2*x.2)) x.2:=fun n x hx=>by
  obtain⟨p,hp',rfl⟩:=List.mem_map.1 hx
  obtain⟨k0,k1⟩:=hp.nl nl p hp'
  exact lay_turns k0 k1 n
 have e2:(fun n=>ampN (ptB A ps) false n*(ampN (ptA A ps) true n).conj)=fun n => -((ampN (ptA A ps) false n).conj*ampN (ptA A ps) true n):=funext fun n=>rev_law b n (fy n) (fz n) (lt n)
 rw[e2]at j1
 exact j1.meet j2
end Go.Proofs.YticobgianbecpaaGreatDoor
