/- Joined: Cq TurnNum DirNear. -/
import Derived.Test.YticobgianbecpaaGreatDoorKLaw
namespace Go.Proofs.YticobgianbecpaaGreatDoor
structure Cq where
 re:Rat
 im:Rat
namespace Cq
def add (a b:Cq):Cq:=⟨a.re+b.re,a.im+b.im⟩
def sub (a b:Cq):Cq:=⟨a.re-b.re,a.im-b.im⟩
def mul (a b:Cq):Cq:=⟨a.re*b.re-a.im*b.im,a.re*b.im+a.im*b.re⟩
def neg (a:Cq):Cq:=⟨-a.re, -a.im⟩
def conj (a:Cq):Cq:=⟨a.re, -a.im⟩
def scale (k:Rat) (a:Cq):Cq:=⟨k*a.re,k*a.im⟩
def nrm (a:Cq):Rat:=a.re*a.re+a.im*a.im
def one:Cq:=⟨1,0⟩
def i:Cq:=⟨0,1⟩
instance:Add Cq:=⟨add⟩
instance:Sub Cq:=⟨sub⟩
instance:Mul Cq:=⟨mul⟩
instance:Neg Cq:=⟨neg⟩
theorem ext' {a b:Cq} (h:a.re=b.re) (h2:a.im=b.im):a=b:=by cases a;cases b;simp at *;exact⟨h,h2⟩
@[simp] theorem add_re (a b:Cq):(a+b).re=a.re+b.re:=rfl
@[simp] theorem add_im (a b:Cq):(a+b).im=a.im+b.im:=rfl
@[simp] theorem sub_re (a b:Cq):(a-b).re=a.re-b.re:=rfl
@[simp] theorem sub_im (a b:Cq):(a-b).im=a.im-b.im:=rfl
@[simp] theorem mul_re (a b:Cq):(a*b).re=a.re*b.re-a.im*b.im:=rfl
@[simp] theorem mul_im (a b:Cq):(a*b).im=a.re*b.im+a.im*b.re:=rfl
@[simp] theorem neg_re (a:Cq):(-a).re = -a.re:=rfl
@[simp] theorem neg_im (a:Cq):(-a).im = -a.im:=rfl
@[simp] theorem conj_re (a:Cq):a.conj.re=a.re:=rfl
@[simp] theorem conj_im (a:Cq):a.conj.im = -a.im:=rfl
@[simp] theorem scale_re (k:Rat) (a:Cq):(a.scale k).re=k*a.re:=rfl
@[simp] theorem scale_im (k:Rat) (a:Cq):(a.scale k).im=k*a.im:=rfl
@[simp] theorem one_re:one.re=1:=rfl
@[simp] theorem one_im:one.im=0:=rfl
@[simp] theorem i_re:i.re=0:=rfl
@[simp] theorem i_im:i.im=1:=rfl
theorem nrm_mul (a b:Cq):(a*b).nrm=a.nrm*b.nrm:=by simp[nrm];grind
theorem mul_assoc (a b c:Cq):a*b*c=a*(b*c):=by apply ext'<;>simp<;>grind
theorem mul_comm (a b:Cq):a*b=b*a:=by apply ext'<;>simp<;>grind
theorem mul_one (a:Cq):a*one=a:=by apply ext'<;>simp<;>grind
theorem one_mul (a:Cq):one*a=a:=by apply ext'<;>simp<;>grind
end Cq
theorem rsq (a:Rat):0≤a*a:=by
 rcases Rat.le_total (a:=0) (b:=a)with h|h
 ·exact Rat.mul_nonneg h h
 ·have:=Rat.mul_nonneg (show 0 ≤ -a by grind) (show 0 ≤ -a by grind)
  grind
theorem Cq.nrm_nn (a:Cq):0≤a.nrm:=by
 have:=rsq a.re
 have:=rsq a.im
 unfold nrm
 grind
theorem rmul_le {a b c d:Rat} (h0:0≤a) (h1:a≤b) (h2:0≤c) (h3:c≤d):a*c≤b*d:=by
 have t1:=Rat.mul_le_mul_of_nonneg_left h3 h0
 have t2:=Rat.mul_le_mul_of_nonneg_right h1 (show 0≤d by grind)
 grind
theorem rsq_mono {a b:Rat} (ha:0≤a) (h:a≤b):a*a≤b*b:=rmul_le ha h ha h
theorem rle_of_sq {a b:Rat} (hb:0≤b) (h:a*a≤b*b):a≤b:=by
 rcases Rat.le_total (a:=a) (b:=b)with h1|h1
 ·exact h1
 ·rcases Rat.le_total (a:=a) (b:=0)with h2|h2
  ·grind
  ·have h3:b*b≤a*b:=Rat.mul_le_mul_of_nonneg_right h1 hb
   have h4:a*b≤a*a:=Rat.mul_le_mul_of_nonneg_left h1 h2
   rcases Rat.le_total (a:=b) (b:=0)with h5|h5
   ·have:b=0:=by grind
    subst this
    have:a*a=0:=by grind
    have:a=0:=by
     by_cases k:a=0
     ·exact k
     ·grind
    grind
   ·by_cases hab:a=b
    ·grind
    ·have hlt:0<a-b:=by grind
     have hpos:0<a:=by grind
     have:=Rat.mul_pos hlt hpos
     grind
theorem rabs_of_sq {a b:Rat} (hb:0≤b) (h:a*a≤b*b) : -b≤a∧a≤b:=by
 have h1:=rle_of_sq hb h
 have h2:=rle_of_sq (a := -a) hb (by grind)
 grind
theorem Cq.tri {a b:Cq}{A B:Rat} (hA:0≤A) (hB:0≤B) (h1:a.nrm≤A*A) (h2:b.nrm≤B*B):(a+b).nrm≤(A+B)*(A+B):=by
 unfold nrm at *
 simp only[add_re,add_im]
 have hc:(a.re*b.re+a.im*b.im)*(a.re*b.re+a.im*b.im)+(a.re*b.im-a.im*b.re)*(a.re*b.im-a.im*b.re)=(a.re*a.re+a.im*a.im)*(b.re*b.re+b.im*b.im):=by grind
 have n1:=rsq (a.re*b.im-a.im*b.re)
 have m:=rmul_le (a.nrm_nn) h1 (b.nrm_nn) h2
 unfold nrm at m
 have h4:a.re*b.re+a.im*b.im≤A*B:=rle_of_sq (Rat.mul_nonneg hA hB) (by grind)
 grind
theorem Cq.nrm_neg (a:Cq):(-a).nrm=a.nrm:=by unfold nrm;simp;grind
theorem Cq.nrm_conj (a:Cq):a.conj.nrm=a.nrm:=by unfold nrm;simp;grind
theorem Cq.nrm_scale (k:Rat) (a:Cq):(a.scale k).nrm=k*k*a.nrm:=by unfold nrm;simp;grind
theorem Cq.nrm_sub (a b:Cq):(a-b).nrm=(b-a).nrm:=by unfold nrm;simp;grind
theorem Cq.tri_sub {a b:Cq}{A B:Rat} (hA:0≤A) (hB:0≤B) (h1:a.nrm≤A*A) (h2:b.nrm≤B*B):(a-b).nrm≤(A+B)*(A+B):=by
 have:=Cq.tri hA hB h1 (b := -b) (by rw[nrm_neg];exact h2)
 have e:a + -b=a-b:=by apply Cq.ext'<;>simp<;>grind
 rwa [e]at this
def Cq.Near (a b:Cq) (e:Rat):Prop:=0≤e∧(a-b).nrm≤e*e
theorem Cq.Near.mk {a b:Cq}{e:Rat} (h:0≤e) (h2:(a-b).nrm≤e*e):Cq.Near a b e:=⟨h,h2⟩
theorem Cq.Near.symm {a b:Cq}{e:Rat} (h:Cq.Near a b e):Cq.Near b a e:=⟨h.1,by rw[nrm_sub];exact h.2⟩
theorem Cq.Near.trans {a b c:Cq}{d e:Rat} (h:Cq.Near a b d) (h2:Cq.Near b c e):Cq.Near a c (d+e):=by
 refine⟨by have:=h.1;have:=h2.1;grind,?_⟩
 have:=Cq.tri h.1 h2.1 h.2 h2.2
 have e:a-b+(b-c)=a-c:=by apply Cq.ext'<;>simp<;>grind
 rwa [e]at this
theorem Cq.Near.le {a b:Cq}{d e:Rat} (h:Cq.Near a b d) (h2:d≤e):Cq.Near a b e :=
 ⟨by have:=h.1;grind,by have:=rsq_mono h.1 h2;have:=h.2;grind⟩
theorem Cq.Near.add {a b c d:Cq}{e f:Rat} (h:Cq.Near a b e) (h2:Cq.Near c d f):Cq.Near (a+c) (b+d) (e+f):=by
 refine⟨by have:=h.1;have:=h2.1;grind,?_⟩
 have:=Cq.tri h.1 h2.1 h.2 h2.2
 have e:a-b+(c-d)=a+c-(b+d):=by apply Cq.ext'<;>simp<;>grind
 rwa [e]at this
theorem Cq.Near.mul_left {a b:Cq}{e:Rat} (h:Cq.Near a b e) (c:Cq) (A:Rat) (hA:0≤A) (hc:c.nrm≤A*A):Cq.Near (c*a) (c*b) (A*e):=by
 refine⟨Rat.mul_nonneg hA h.1,?_⟩
 have e1:c*a-c*b=c*(a-b):=by apply Cq.ext'<;>simp<;>grind
 rw[e1,nrm_mul]
 have:=rmul_le c.nrm_nn hc (a-b).nrm_nn h.2
 grind
theorem Cq.Near.rfl (a:Cq):Cq.Near a a 0:=⟨by grind,by unfold nrm;simp;grind⟩
theorem Cq.Near.scale {a b:Cq}{e:Rat} (h:Cq.Near a b e) (k:Rat) (hk:0≤k):Cq.Near (a.scale k) (b.scale k) (k*e):=by
 refine⟨Rat.mul_nonneg hk h.1,?_⟩
 have e1:a.scale k-b.scale k=(a-b).scale k:=by apply Cq.ext'<;>simp<;>grind
 rw[e1,nrm_scale]
 have:=Rat.mul_le_mul_of_nonneg_left h.2 (rsq k)
 grind
theorem Cq.Near.mul {a b c d:Cq}{e f A B:Rat} (h:Cq.Near a b e) (h2:Cq.Near c d f) (hA:0≤A) (ha:a.nrm≤A*A) (hB:0≤B) (hd:d.nrm≤B*B):Cq.Near (a*c) (b*d) (A*f+B*e):=by
 have t1:=h2.mul_left a A hA ha
 have t2:=h.mul_left d B hB hd
 rw[Cq.mul_comm d a,Cq.mul_comm d b]at t2
 exact t1.trans t2
end Go.Proofs.YticobgianbecpaaGreatDoor
namespace Go.Proofs.YticobgianbecpaaGreatDoor
def tq:Rat:=749014056584925827833857/1000000000000000000000000000000
def gq:Cq:=⟨(1-tq*tq)/(1+tq*tq),2*tq/(1+tq*tq)⟩
theorem gq_nrm:gq.nrm=1:=by decide +kernel
def E:Nat→Cq
 | 0=>Cq.one
 | n+1=>E n*gq
theorem E_zero:E 0=Cq.one:=rfl
theorem E_one:E 1=gq:=by show Cq.one*gq=gq;exact Cq.one_mul _
theorem E_add (m n:Nat):E (m+n)=E m*E n:=by
 induction n with
 | zero=>exact(Cq.mul_one _).symm
 | succ n ih=>show E (m+n)*gq=E m*(E n*gq);rw[ih,Cq.mul_assoc]
theorem E_nrm (n:Nat):(E n).nrm=1:=by
 induction n with
 | zero=>decide +kernel
 | succ n ih=>show(E n*gq).nrm=1;rw[Cq.nrm_mul,ih,gq_nrm];grind
attribute [irreducible] E
def zz (a b:Int):Cq:=⟨(a:Rat)/1152921504606846976,(b:Rat)/1152921504606846976⟩
def nearB (a b:Cq) (e:Rat):Bool:=decide ((a-b).nrm≤e*e)
theorem E_twice {n m:Nat}{a b c d:Int}{v w:Rat} (h:Cq.Near (zz a b) (E n) v) (hm:m=n+n) (h2:decide ((zz c d-zz a b*zz a b).nrm≤(1/1152921504606846976)*(1/1152921504606846976))=true)
  (h3:decide ((zz a b).nrm≤(1099511627777/1099511627776)*(1099511627777/1099511627776)∧1099511627777/1099511627776*v+v+1/1152921504606846976≤w)=true):Cq.Near (zz c d) (E m) w:=by
 subst hm
 rw[E_add]
 obtain⟨h4,h5⟩:=of_decide_eq_true h3
 have t:=h.mul h (by grind) h4 (show(0:Rat)≤1 by decide) (B:=1) (by rw[E_nrm];decide +kernel)
 have s:Cq.Near (zz c d) (zz a b*zz a b) (1/1152921504606846976):=⟨by decide +kernel,of_decide_eq_true h2⟩
 refine(s.trans t).le ?_
 grind
theorem nr0:Cq.Near (zz (1152921504605553347) (1727108826178)) (E 1) (1/1152921504606846976):=⟨by decide +kernel,by rw[E_one];decide +kernel⟩
theorem nr1:Cq.Near (zz (1152921504601672460) (3454217652352)) (E 2) (4/1152921504606846976):=E_twice nr0 rfl (by decide +kernel) (by decide +kernel)
theorem nr2:Cq.Near (zz (1152921504586148914) (6908435304673)) (E 4) (10/1152921504606846976):=E_twice nr1 rfl (by decide +kernel) (by decide +kernel)
theorem nr3:Cq.Near (zz (1152921504524054731) (13816870609098)) (E 8) (22/1152921504606846976):=E_twice nr2 rfl (by decide +kernel) (by decide +kernel)
theorem nr4:Cq.Near (zz (1152921504275678001) (27633741216212)) (E 16) (46/1152921504606846976):=E_twice nr3 rfl (by decide +kernel) (by decide +kernel)
theorem nr5:Cq.Near (zz (1152921503282171087) (55267482416549)) (E 32) (94/1152921504606846976):=E_twice nr4 rfl (by decide +kernel) (by decide +kernel)
theorem nr6:Cq.Near (zz (1152921499308143444) (110534964706096)) (E 64) (190/1152921504606846976):=E_twice nr5 rfl (by decide +kernel) (by decide +kernel)
theorem nr7:Cq.Near (zz (1152921483412032937) (221069928396178)) (E 128) (382/1152921504606846976):=E_twice nr6 rfl (by decide +kernel) (by decide +kernel)
theorem nr8:Cq.Near (zz (1152921419827591680) (442139848664247)) (E 256) (766/1152921504606846976):=E_twice nr7 rfl (by decide +kernel) (by decide +kernel)
theorem nr9:Cq.Near (zz (1152921165489838422) (884279632303621)) (E 512) (1534/1152921504606846976):=E_twice nr8 rfl (by decide +kernel) (by decide +kernel)
theorem nr10:Cq.Near (zz (1152920148139012577) (1768558744408317)) (E 1024) (3070/1152921504606846976):=E_twice nr9 rfl (by decide +kernel) (by decide +kernel)
theorem nr11:Cq.Near (zz (1152916078738701925) (3537113327227071)) (E 2048) (6142/1152921504606846976):=E_twice nr10 rfl (by decide +kernel) (by decide +kernel)
theorem nr12:Cq.Near (zz (1152899801185338401) (7074193361796401)) (E 4096) (12286/1152921504606846976):=E_twice nr11 rfl (by decide +kernel) (by decide +kernel)
theorem nr13:Cq.Near (zz (1152834691737936811) (14148120384211065)) (E 8192) (24574/1152921504606846976):=E_twice nr12 rfl (by decide +kernel) (by decide +kernel)
theorem nr14:Cq.Near (zz (1152574266204910214) (28294110113533082)) (E 16384) (49150/1152921504606846976):=E_twice nr13 rfl (by decide +kernel) (by decide +kernel)
theorem nr15:Cq.Near (zz (1151532760162539502) (56571176913118444)) (E 32768) (98302/1152921504606846976):=E_twice nr14 rfl (by decide +kernel) (by decide +kernel)
theorem nr16:Cq.Near (zz (1147369872436643735) (113006068906002325)) (E 65536) (196606/1152921504606846976):=E_twice nr15 rfl (by decide +kernel) (by decide +kernel)
theorem nr17:Cq.Near (zz (1130768441178705400) (224923827593034968)) (E 131072) (393214/1152921504606846976):=E_twice nr16 rfl (by decide +kernel) (by decide +kernel)
theorem nr18:Cq.Near (zz (1065160580698327003) (441203958630391531)) (E 262144) (786430/1152921504606846976):=E_twice nr17 rfl (by decide +kernel) (by decide +kernel)
theorem nr19:Cq.Near (zz (815238614083256671) (815238614083107505)) (E 524288) (1572862/1152921504606846976):=E_twice nr18 rfl (by decide +kernel) (by decide +kernel)
theorem nr20:Cq.Near (zz (210953) (1152921504606516615)) (E 1048576) (3145726/1152921504606846976):=E_twice nr19 rfl (by decide +kernel) (by decide +kernel)
theorem nr21:Cq.Near (zz (-1152921504606186254) (421906)) (E 2097152) (6291454/1152921504606846976):=E_twice nr20 rfl (by decide +kernel) (by decide +kernel)
theorem nr22:Cq.Near (zz (1152921504605525532) (-843812)) (E 4194304) (12582910/1152921504606846976):=E_twice nr21 rfl (by decide +kernel) (by decide +kernel)
end Go.Proofs.YticobgianbecpaaGreatDoor
namespace Go.Proofs.YticobgianbecpaaGreatDoor
def Inv (P:Rat) (n:Nat) (x y:Int):Prop :=
 -P≤(E n).re*y-(E n).im*x∧(E n).re*y-(E n).im*x≤P∧67108864-5/2≤(E n).re*x+(E n).im*y∧(E n).re*x+(E n).im*y≤67108864+5/2
theorem e_nrm (n:Nat):(E n).re*(E n).re+(E n).im*(E n).im=1:=E_nrm n
theorem lost_bd {s t f g:Rat} (h:s*s+t*t=1) (f0:0≤f) (f1:f≤1) (g0:0≤g) (g1:g≤1):(-(3/2)≤s*f+t*g∧s*f+t*g≤3/2)∧(-(3/2)≤s*g-t*f∧s*g-t*f≤3/2):=by
 have a1:=rmul_le f0 f1 f0 f1
 have a2:=rmul_le g0 g1 g0 g1
 have e:(s*f+t*g)*(s*f+t*g)+(s*g-t*f)*(s*g-t*f)=f*f+g*g:=by
  have:(s*f+t*g)*(s*f+t*g)+(s*g-t*f)*(s*g-t*f)=(s*s+t*t)*(f*f+g*g):=by grind
  rw[this,h];grind
 have n1:=rsq (s*f+t*g)
 have n2:=rsq (s*g-t*f)
 exact⟨rabs_of_sq (by grind) (by grind),rabs_of_sq (by grind) (by grind)⟩
theorem mid_law {C S P T Y R k X1 Y1 D1 D2:Rat} (C0:9/10≤C) (C1:C≤1) (S0:0≤S) (S1:S≤83/200*C) (P0:0≤P) (P1:P≤60)
  (x1 : -P≤X1) (x2:X1≤P) (y1 : -P≤Y1) (y2:Y1≤P) (d1:67108864-5/2≤D1) (d2:D1≤67108864+5/2) (d3:67108864-5/2≤D2) (d4:D2≤67108864+5/2)
  (hT:T=C*(D1+D2)+S*(X1-Y1)) (hY:Y=C*(X1+Y1)+S*(D2-D1)) (R0:0≤R) (hR1:R*R≤T*T+Y*Y) (hR2:T*T+Y*Y<(R+1)*(R+1)) (hk:k*R=67108864) :
  -(P+11/10)≤Y*k∧Y*k≤P+11/10∧67108864-1/2≤T*k∧T*k≤67108864+1:=by
 have m1:C*(134217728-5)≤C*(D1+D2):=Rat.mul_le_mul_of_nonneg_left (by grind) (by grind)
 have m2:S*(-120)≤S*(X1-Y1):=Rat.mul_le_mul_of_nonneg_left (by grind) S0
 have m3:C*(X1+Y1)≤C*(2*P):=Rat.mul_le_mul_of_nonneg_left (by grind) (by grind)
 have m4:C*(-(2*P))≤C*(X1+Y1):=Rat.mul_le_mul_of_nonneg_left (by grind) (by grind)
 have m5:S*(D2-D1)≤S*5:=Rat.mul_le_mul_of_nonneg_left (by grind) S0
 have m6:S*(-5)≤S*(D2-D1):=Rat.mul_le_mul_of_nonneg_left (by grind) S0
 have cp:C*P≤P:=by have:=Rat.mul_le_mul_of_nonneg_right C1 P0;grind
 have cp0:0≤C*P:=Rat.mul_nonneg (by grind) P0
 have T0:120000000≤T:=by grind
 have Y0 : -123≤Y∧Y≤123:=by grind
 have yy:Y*Y≤123*123:=by
  rcases Rat.le_total (a:=0) (b:=Y)with h|h
  ·exact rsq_mono h (by grind)
  ·have:=rsq_mono (a := -Y) (b:=123) (by grind) (by grind);grind
 have yn:=rsq Y
 have TR:T≤R+1:=rle_of_sq (by grind) (by grind)
 have RT:R≤T+1/1000:=by
  refine rle_of_sq (by grind) ?_
  have:(T+1/1000)*(T+1/1000)=T*T+T/500+1/1000000:=by grind
  grind
 have R1:100000000≤R:=by grind
 have k0:0<k:=by
  rcases Rat.le_total (a:=k) (b:=0)with h|h
  ·have:=Rat.mul_le_mul_of_nonneg_right h R0;grind
  ·by_cases e:k=0
   ·subst e;grind
   ·grind
 have k1:k≤1:=by
  rcases Rat.le_total (a:=k) (b:=1)with h|h
  ·exact h
  ·have:=Rat.mul_le_mul_of_nonneg_right h R0;grind
 have t1:T*k≤(R+1)*k:=Rat.mul_le_mul_of_nonneg_right TR (by grind)
 have t2:R*k≤(T+1/1000)*k:=Rat.mul_le_mul_of_nonneg_right RT (by grind)
 have key:(2*(C*P)+5*S)*67108864≤(P+11/10)*R:=by
  have r1:2*C*(67108864-5/2)-120*S-1≤R:=by grind
  have r2:=Rat.mul_le_mul_of_nonneg_left r1 (show 0≤P+11/10 by grind)
  have sp:S*P≤S*60:=Rat.mul_le_mul_of_nonneg_left P1 S0
  have e:(P+11/10)*(2*C*(67108864-5/2)-120*S-1)=134217723*(C*P)+134217723*11/10*C-120*(S*P)-132*S-P-11/10:=by grind
  rw[e]at r2
  grind
 have yk:Y*67108864≤(P+11/10)*R:=by grind
 have yk2 : -((P+11/10)*R)≤Y*67108864:=by grind
 have b1:Y*k*67108864≤(P+11/10)*67108864:=by
  have:=Rat.mul_le_mul_of_nonneg_right yk (show 0≤k by grind)
  have e:(P+11/10)*R*k=(P+11/10)*67108864:=by rw[← hk];grind
  grind
 have b2 : -((P+11/10)*67108864)≤Y*k*67108864:=by
  have:=Rat.mul_le_mul_of_nonneg_right yk2 (show 0≤k by grind)
  have e:(P+11/10)*R*k=(P+11/10)*67108864:=by rw[← hk];grind
  grind
 refine⟨by grind,by grind,by grind,by grind⟩
theorem castle {a b:Int} (h:a≤b):(a:Rat)≤(b:Rat):=Rat.intCast_le_intCast.2 h
theorem castlt {a b:Int} (h:a<b):(a:Rat)<(b:Rat):=Rat.intCast_lt_intCast.2 h
theorem bw_inv {P:Rat}{n d:Nat}{a b c e:Int} (h:Dirn a b) (h':Dirn c e) (hi:Inv P n a b) (hi':Inv P (n+d+d) c e) (C0:9/10≤(E d).re) (C1:(E d).re≤1) (S0:0≤(E d).im) (S1:(E d).im≤83/200*(E d).re)
  (P0:0≤P) (P1:P≤60):Inv (P+13/5) (n+d) (bwX a b c e) (bwY a b c e):=by
 have⟨f1,f2,f3,f4,f5,f6,f7,f8,f9⟩:=bw_facts h h'
 have s:=rt_spec (n:=(a+c)*(a+c)+(b+e)*(b+e)) (by omega) (by omega)
 have hR:bwR a b c e=rt ((a+c)*(a+c)+(b+e)*(b+e)):=by unfold bwR;rfl
 rw[← hR]at s
 unfold bwX bwY
 generalize bwR a b c e=r at *
 have qx:=Int.mul_ediv_add_emod ((a+c)*67108864) r
 have qx0:=Int.emod_nonneg ((a+c)*67108864) (show r≠0 by omega)
 have qx1:=Int.emod_lt_of_pos ((a+c)*67108864) (show 0<r by omega)
 have qy:=Int.mul_ediv_add_emod ((b+e)*67108864) r
 have qy0:=Int.emod_nonneg ((b+e)*67108864) (show r≠0 by omega)
 have qy1:=Int.emod_lt_of_pos ((b+e)*67108864) (show 0<r by omega)
 generalize (a+c)*67108864/r=X at *
 generalize (b+e)*67108864/r=Y at *
 generalize (a+c)*67108864%r=x at *
 generalize (b+e)*67108864%r=y at *
 have sx:(r:Rat)*X+x=(a+c)*67108864:=by have:=congrArg (fun z:Int=>(z:Rat)) qx;push_cast at this;exact this
 have sy:(r:Rat)*Y+y=(b+e)*67108864:=by have:=congrArg (fun z:Int=>(z:Rat)) qy;push_cast at this;exact this
 have x0:=castle qx0
 have x1:=castlt qx1
 have y0:=castle qy0
 have y1:=castlt qy1
 have r0:(2:Rat)≤r:=by have:=castle (show 2≤r by omega);push_cast at this;exact this
 have n1:(r:Rat)*r≤((a:Rat)+c)*(a+c)+(b+e)*(b+e):=by have:=castle s.1;push_cast at this;exact this
 have n2:((a:Rat)+c)*(a+c)+(b+e)*(b+e)<(r+1)*(r+1):=by have:=castlt s.2;push_cast at this;exact this
 clear s f1 f2 f3 f4 f5 f6 f7 f8 f9 qx qx0 qx1 qy qy0 qy1 hR
 push_cast at x0 y0
 unfold Inv at *
 rw[E_add (n+d) d,E_add n d]at hi'
 rw[E_add n d]
 have en:=e_nrm n
 have ed:=e_nrm d
 obtain⟨i1,i2,i3,i4⟩:=hi
 obtain⟨j1,j2,j3,j4⟩:=hi'
 simp only[Cq.mul_re,Cq.mul_im]at *
 generalize (E n).re=p at *
 generalize (E n).im=q at *
 generalize (E d).re=C at *
 generalize (E d).im=S at *
 generalize (a:Rat)=a at *
 generalize (b:Rat)=b at *
 generalize (c:Rat)=c at *
 generalize (e:Rat)=e at *
 generalize (r:Rat)=r at *
 generalize (X:Rat)=X at *
 generalize (Y:Rat)=Y at *
 generalize (x:Rat)=x at *
 generalize (y:Rat)=y at *
 obtain⟨k,hk⟩:∃k:Rat,k*r=67108864:=⟨67108864/r,by grind⟩
 have un:(p*C-q*S)*(p*C-q*S)+(p*S+q*C)*(p*S+q*C)=1:=by
  have:(p*C-q*S)*(p*C-q*S)+(p*S+q*C)*(p*S+q*C)=(p*p+q*q)*(C*C+S*S):=by grind
  rw[this,en,ed];grind
 obtain⟨f,hf⟩:∃f:Rat,f*r=x:=⟨x/r,by grind⟩
 obtain⟨g,hg⟩:∃g:Rat,g*r=y:=⟨y/r,by grind⟩
 have fb:∀f x:Rat,f*r=x→0≤x→x<r→0≤f∧f≤1:=fun f x hf h0 h1=>by
  constructor
  ·rcases Rat.le_total (a:=0) (b:=f)with h|h
   ·exact h
   ·by_cases e0:f=0
    ·grind
    ·have:=Rat.mul_pos (show 0 < -f by grind) (show 0<r by grind);grind
  ·rcases Rat.le_total (a:=f) (b:=1)with h|h
   ·exact h
   ·have:=Rat.mul_le_mul_of_nonneg_right h (show 0≤r by grind);grind
 have⟨f0,f1⟩:=fb f x hf x0 x1
 have⟨g0,g1⟩:=fb g y hg y0 y1
 have l:=lost_bd un f0 f1 g0 g1
 have canc:∀u v:Rat,u*r=v*r→u=v:=fun u v h=>by
  have:(u-v)*r=0:=by grind
  have:u-v=0:=by
   by_cases e0:u-v=0
   ·exact e0
   ·grind
  grind
 have eX:X=(a+c)*k-f:=canc _ _ (by grind)
 have eY:Y=(b+e)*k-g:=canc _ _ (by grind)
 have m:=mid_law (C:=C) (S:=S) (P:=P) (T:=(p*C-q*S)*(a+c)+(p*S+q*C)*(b+e)) (Y:=(p*C-q*S)*(b+e)-(p*S+q*C)*(a+c)) (R:=r) (k:=k)
  (X1:=p*b-q*a) (D1:=p*a+q*b)
  (Y1:=((p*C-q*S)*C-(p*S+q*C)*S)*e-((p*C-q*S)*S+(p*S+q*C)*C)*c)
  (D2:=((p*C-q*S)*C-(p*S+q*C)*S)*c+((p*C-q*S)*S+(p*S+q*C)*C)*e)
  C0 C1 S0 S1 P0 P1 i1 i2 j1 j2 i3 i4 j3 j4 (by grind) (by grind) (by grind)
  (by
   have e1:((p*C-q*S)*(a+c)+(p*S+q*C)*(b+e))*((p*C-q*S)*(a+c)+(p*S+q*C)*(b+e))+((p*C-q*S)*(b+e)-(p*S+q*C)*(a+c))*((p*C-q*S)*(b+e)-(p*S+q*C)*(a+c))=((p*C-q*S)*(p*C-q*S)+(p*S+q*C)*(p*S+q*C))*((a+c)*(a+c)+(b+e)*(b+e)):=by grind
   rw[e1,un];grind)
  (by
   have e1:((p*C-q*S)*(a+c)+(p*S+q*C)*(b+e))*((p*C-q*S)*(a+c)+(p*S+q*C)*(b+e))+((p*C-q*S)*(b+e)-(p*S+q*C)*(a+c))*((p*C-q*S)*(b+e)-(p*S+q*C)*(a+c))=((p*C-q*S)*(p*C-q*S)+(p*S+q*C)*(p*S+q*C))*((a+c)*(a+c)+(b+e)*(b+e)):=by grind
   rw[e1,un];grind) hk
 generalize p*C-q*S=s at *
 generalize p*S+q*C=t at *
 rw[eX,eY]
 obtain⟨⟨l1,l2⟩,l3,l4⟩:=l
 obtain⟨m1,m2,m3,m4⟩:=m
 refine⟨?_,?_,?_,?_⟩<;>grind
theorem near_parts {z v:Cq}{e:Rat} (h:Cq.Near z v e):(z.re-e≤v.re∧v.re≤z.re+e)∧(z.im-e≤v.im∧v.im≤z.im+e):=by
 obtain⟨h0,h1⟩:=h
 unfold Cq.nrm at h1
 simp only[Cq.sub_re,Cq.sub_im]at h1
 have n1:=rsq (z.re-v.re)
 have n2:=rsq (z.im-v.im)
 have a:=rabs_of_sq (a:=z.re-v.re) h0 (by grind)
 have b:=rabs_of_sq (a:=z.im-v.im) h0 (by grind)
 grind
theorem E_comp {a b:Int}{n:Nat}{w:Rat} (h:Cq.Near (zz a b) (E n) w) (h2:decide (9/10≤(zz a b).re-w∧0≤(zz a b).im-w∧(zz a b).im+w≤83/200*((zz a b).re-w))=true) :
  9/10≤(E n).re∧(E n).re≤1∧0≤(E n).im∧(E n).im≤83/200*(E n).re:=by
 obtain⟨h3,h4,h5⟩:=of_decide_eq_true h2
 have p:=near_parts h
 have e:=e_nrm n
 have q:=rsq (E n).im
 have r:=rle_of_sq (a:=(E n).re) (b:=1) (by decide) (by grind)
 grind
theorem E_pow:∀k:Nat,k<19→9/10≤(E (2^k)).re∧(E (2^k)).re≤1∧0≤(E (2^k)).im∧(E (2^k)).im≤83/200*(E (2^k)).re:=by
 intro k hk
 match k,hk with
 | 0,_=>exact E_comp nr0 (by decide +kernel)
 | 1,_=>exact E_comp nr1 (by decide +kernel)
 | 2,_=>exact E_comp nr2 (by decide +kernel)
 | 3,_=>exact E_comp nr3 (by decide +kernel)
 | 4,_=>exact E_comp nr4 (by decide +kernel)
 | 5,_=>exact E_comp nr5 (by decide +kernel)
 | 6,_=>exact E_comp nr6 (by decide +kernel)
 | 7,_=>exact E_comp nr7 (by decide +kernel)
 | 8,_=>exact E_comp nr8 (by decide +kernel)
 | 9,_=>exact E_comp nr9 (by decide +kernel)
 | 10,_=>exact E_comp nr10 (by decide +kernel)
 | 11,_=>exact E_comp nr11 (by decide +kernel)
 | 12,_=>exact E_comp nr12 (by decide +kernel)
 | 13,_=>exact E_comp nr13 (by decide +kernel)
 | 14,_=>exact E_comp nr14 (by decide +kernel)
 | 15,_=>exact E_comp nr15 (by decide +kernel)
 | 16,_=>exact E_comp nr16 (by decide +kernel)
 | 17,_=>exact E_comp nr17 (by decide +kernel)
 | 18,_=>exact E_comp nr18 (by decide +kernel)
 | k+19,h=>exact absurd h (by omega)
theorem Inv.le {P Q:Rat}{n:Nat}{x y:Int} (h:Inv P n x y) (hq:P≤Q):Inv Q n x y:=by
 obtain⟨h1,h2,h3,h4⟩:=h
 exact⟨by grind,by grind,h3,h4⟩
theorem dirF_inv (k:Nat):∀(n j:Nat) (a b c d:Int) (P:Rat),k≤19→j≤2^k→Dirn a b→Dirn c d→0≤P→P+13/5*(k:Rat)≤60→Inv P n a b→Inv P (n+2^k) c d →
  Inv (P+13/5*(k:Rat)) (n+j) (dirF k j a b c d).1 (dirF k j a b c d).2:=by
 induction k with
 | zero =>
  intro n j a b c d P _ hj _ _ p0 p1 hi hi'
  unfold dirF
  split
  ·rename_i h0;subst h0;exact hi.le (by grind)
  ·have:j=1:=by simp at hj;omega
   subst this;exact hi'.le (by grind)
 | succ k ih =>
  intro n j a b c d P hk hj hd hd' p0 p1 hi hi'
  have⟨c0,c1,s0,s1⟩:=E_pow k (by omega)
  have h2:2^(k+1)=2^k+2^k:=by rw[Nat.pow_succ];omega
  rw[h2]at hj hi'
  rw[← Nat.add_assoc]at hi'
  have hkc:((k+1:Nat):Rat)=(k:Rat)+1:=by push_cast;rfl
  rw[hkc]at p1 ⊢
  have k0:(0:Rat)≤k:=by exact_mod_cast Nat.zero_le k
  have hm:=bw_inv hd hd' hi hi' c0 c1 s0 s1 p0 (by grind)
  have hdm:=bw_dirn hd hd'
  have e:P+13/5*((k:Rat)+1)=P+13/5+13/5*k:=by grind
  rw[e]at p1 ⊢
  unfold dirF
  split
  ·rename_i h0
   have:=ih (n+2^k) (j-2^k) _ _ c d (P+13/5) (by omega) (by omega) hdm hd' (by grind) p1 hm (hi'.le (by grind))
   rwa [show n+2^k+(j-2^k)=n+j by omega]at this
  ·rename_i h0
   exact ih n j a b _ _ (P+13/5) (by omega) (by omega) hd hdm (by grind) p1 (hi.le (by grind)) hm
theorem inv_a:Inv 1 0 67108864 0:=by unfold Inv;rw[E_zero];simp;decide +kernel
theorem inv_b:Inv 1 (0+2^19) 47453132 47453132:=by
 have p:=near_parts nr19
 have e:0+2^19=524288:=by decide
 rw[e]
 unfold Inv
 generalize (E 524288)=v at *
 unfold zz at p
 obtain⟨⟨p1,p2⟩,p3,p4⟩:=p
 simp only[]at p1 p2 p3 p4
 push_cast at *
 refine⟨?_,?_,?_,?_⟩<;>grind
theorem fst_near (m:Nat) (hm:m≤524288):Cq.Near ⟨fstX m,fstY m⟩ ((E m).scale 67108864) (101/2):=by
 have h:=dirF_inv 19 0 m 67108864 0 47453132 47453132 1 (by omega) (by simpa using hm) dirn_a dirn_b (by decide) (by decide +kernel) inv_a inv_b
 have e1:(dirF 19 m 67108864 0 47453132 47453132).1=fstX m:=by unfold fstX;rfl
 have e2:(dirF 19 m 67108864 0 47453132 47453132).2=fstY m:=by unfold fstY;rfl
 rw[e1,e2,Nat.zero_add]at h
 have en:=e_nrm m
 unfold Inv at h
 refine⟨by decide +kernel,?_⟩
 unfold Cq.nrm
 simp only[Cq.sub_re,Cq.sub_im,Cq.scale_re,Cq.scale_im]
 generalize (E m).re=p at *
 generalize (E m).im=q at *
 generalize (fstX m:Rat)=x at *
 generalize (fstY m:Rat)=y at *
 obtain⟨h1,h2,h3,h4⟩:=h
 have e:(x-67108864*p)*(x-67108864*p)+(y-67108864*q)*(y-67108864*q)=(p*y-q*x)*(p*y-q*x)+(p*x+q*y-67108864)*(p*x+q*y-67108864):=by
  have:(p*y-q*x)*(p*y-q*x)+(p*x+q*y-67108864)*(p*x+q*y-67108864)=(p*p+q*q)*(x*x+y*y)-134217728*(p*x+q*y)+67108864*67108864:=by grind
  rw[this,en]
  have:(x-67108864*p)*(x-67108864*p)+(y-67108864*q)*(y-67108864*q)=x*x+y*y-134217728*(p*x+q*y)+67108864*67108864*(p*p+q*q):=by grind
  rw[this,en];grind
 rw[e]
 have c1:(1+13/5*((19:Nat):Rat))=252/5:=by decide +kernel
 rw[c1]at h1 h2
 have sqb:∀u B:Rat, -B≤u→u≤B→u*u≤B*B:=fun u B h h'=>by
  rcases Rat.le_total (a:=0) (b:=u)with g|g
  ·exact rsq_mono g h'
  ·have:=rsq_mono (a := -u) (b:=B) (by grind) (by grind);grind
 have s1:=sqb _ _ h1 h2
 have s2:=sqb (p*x+q*y-67108864) (5/2) (by grind) (by grind)
 grind
theorem near_turn {u v:Cq}{q n:Nat}{e d:Rat} (hu:u.nrm=1) (h:Cq.Near u (E q) d) (hv:Cq.Near v ((E n).scale 67108864) e):Cq.Near (u*v) ((E (q+n)).scale 67108864) (e+67108864*d):=by
 have t1:=hv.mul_left u 1 (by decide) (by rw[hu];decide +kernel)
 have t2:=(h.scale 67108864 (by decide)).mul_left (E n) 1 (by decide) (by rw[E_nrm];decide +kernel)
 have e1:E n*u.scale 67108864=u*(E n).scale 67108864:=by apply Cq.ext'<;>simp<;>grind
 have e2:E n*(E q).scale 67108864=(E (q+n)).scale 67108864:=by rw[E_add];apply Cq.ext'<;>simp<;>grind
 rw[e1,e2]at t2
 exact(t1.trans t2).le (by grind)
def im1:Cq:=⟨-1,0⟩
theorem near_q:Cq.Near Cq.i (E 1048576) (1/100000000000) :=
 ((show Cq.Near Cq.i (zz (210953) (1152921504606516615)) (1/1000000000000)from⟨by decide +kernel,by decide +kernel⟩).trans nr20).le (by decide +kernel)
theorem near_h:Cq.Near im1 (E 2097152) (1/100000000000) :=
 ((show Cq.Near im1 (zz (-1152921504606186254) (421906)) (1/1000000000000)from⟨by decide +kernel,by decide +kernel⟩).trans nr21).le (by decide +kernel)
theorem near_w:Cq.Near Cq.one (E 4194304) (1/50000000000) :=
 ((show Cq.Near Cq.one (zz (1152921504605525532) (-843812)) (5/1000000000000)from⟨by decide +kernel,by decide +kernel⟩).trans nr22).le (by decide +kernel)
theorem d1_near (m:Nat) (hm:m≤1048576):Cq.Near ⟨d1X m,d1Y m⟩ ((E m).scale 67108864) (50501/1000):=by
 unfold d1X d1Y
 split
 ·have h:=fst_near (1048576-m) (by omega)
  have eq:E 1048576=E m*E (1048576-m):=by rw[← E_add];congr 1;omega
  have hq:=near_q
  rw[eq]at hq
  have en:=e_nrm (1048576-m)
  have c:Cq.Near (Cq.i*(⟨fstX (1048576-m),fstY (1048576-m)⟩:Cq).conj) (Cq.i*((E (1048576-m)).scale 67108864).conj) (1*(101/2)):=by
   refine Cq.Near.mul_left ?_ Cq.i 1 (by decide) (by decide +kernel)
   refine⟨h.1,?_⟩
   have:=h.2
   unfold Cq.nrm at *
   simp at *
   grind
  have d:=(hq.scale 67108864 (by decide)).mul_left (E (1048576-m)).conj 1 (by decide) (by rw[Cq.nrm_conj,E_nrm];decide +kernel)
  have e1:(E (1048576-m)).conj*Cq.i.scale 67108864=Cq.i*((E (1048576-m)).scale 67108864).conj:=by apply Cq.ext'<;>simp<;>grind
  have e2:(E (1048576-m)).conj*(E m*E (1048576-m)).scale 67108864=(E m).scale 67108864:=by apply Cq.ext'<;>simp<;>grind
  have e3:Cq.i*(⟨fstX (1048576-m),fstY (1048576-m)⟩:Cq).conj=⟨fstY (1048576-m),fstX (1048576-m)⟩:=by apply Cq.ext'<;>simp<;>grind
  rw[e1,e2]at d
  rw[e3]at c
  exact(c.trans d).le (by decide +kernel)
 ·exact(fst_near m (by omega)).le (by decide +kernel)
theorem d2_near (m:Nat) (hm:m≤2097152):Cq.Near ⟨d2X m,d2Y m⟩ ((E m).scale 67108864) (50502/1000):=by
 unfold d2X d2Y
 split
 ·have t:=near_turn (by decide +kernel) near_q (d1_near (m-1048576) (by omega))
  have e3:Cq.i*(⟨d1X (m-1048576),d1Y (m-1048576)⟩:Cq)=⟨((-d1Y (m-1048576):Int):Rat),d1X (m-1048576)⟩:=by apply Cq.ext'<;>simp<;>grind
  rw[e3,show 1048576+(m-1048576)=m by omega]at t
  exact t.le (by decide +kernel)
 ·exact(d1_near m (by omega)).le (by decide +kernel)
theorem d3_near (m:Nat) (hm:m≤4194304):Cq.Near ⟨d3X m,d3Y m⟩ ((E m).scale 67108864) (506/10):=by
 unfold d3X d3Y
 split
 ·have t:=near_turn (by decide +kernel) near_h (d2_near (m-2097152) (by omega))
  have e3:im1*(⟨d2X (m-2097152),d2Y (m-2097152)⟩:Cq)=⟨((-d2X (m-2097152):Int):Rat),((-d2Y (m-2097152):Int):Rat)⟩:=by unfold im1;apply Cq.ext'<;>simp<;>grind
  rw[e3,show 2097152+(m-2097152)=m by omega]at t
  exact t.le (by decide +kernel)
 ·exact(d2_near m (by omega)).le (by decide +kernel)
theorem half_bd {x:Int} : -(1/2)≤(((2*x+64)/128:Int):Rat)-1/64*x∧(((2*x+64)/128:Int):Rat)-1/64*x≤1/2:=by
 have h1:128*((2*x+64)/128)≤2*x+64:=by omega
 have h2:2*x+64≤128*((2*x+64)/128)+128:=by omega
 generalize (2*x+64)/128=q at *
 have h3:=Rat.intCast_le_intCast.2 h1
 have h4:=Rat.intCast_le_intCast.2 h2
 push_cast at h3 h4
 grind
theorem half_nrm {x y:Rat} (h1 : -(1/2)≤x) (h2:x≤1/2) (h3 : -(1/2)≤y) (h4:y≤1/2):x*x+y*y≤7072/10000*(7072/10000):=by
 have k:∀x:Rat, -(1/2)≤x→x≤1/2→x*x≤1/4:=fun x h1 h2=>by
  rcases Rat.le_total (a:=0) (b:=x)with h|h
  ·have:=rsq_mono h h2;grind
  ·have:=rsq_mono (a := -x) (b:=1/2) (by grind) (by grind);grind
 have:=k x h1 h2
 have:=k y h3 h4
 grind
theorem ct_near (l:Int):Cq.Near ⟨ctX l,ctY l⟩ ((E (plc l)).scale 1048576) (3/2):=by
 have h:=(d3_near (plc l) (by have:=plc_lt l;omega)).scale (1/64) (by decide +kernel)
 have e1:((E (plc l)).scale 67108864).scale (1/64)=(E (plc l)).scale 1048576:=by apply Cq.ext'<;>simp<;>grind
 rw[e1]at h
 have ex:d3X (plc l)=dcX l:=by unfold dcX;rfl
 have ey:d3Y (plc l)=dcY l:=by unfold dcY;rfl
 rw[ex,ey]at h
 have r:Cq.Near ⟨ctX l,ctY l⟩ ((⟨dcX l,dcY l⟩:Cq).scale (1/64)) (7072/10000):=by
  refine⟨by decide +kernel,?_⟩
  have b1:=half_bd (x:=dcX l)
  have b2:=half_bd (x:=dcY l)
  unfold ctX ctY Cq.nrm
  simp only[Cq.sub_re,Cq.sub_im,Cq.scale_re,Cq.scale_im]
  exact half_nrm b1.1 b1.2 b2.1 b2.2
 exact(r.trans h).le (by decide +kernel)
theorem d1_zero:d1X 0=67108864∧d1Y 0=0:=by unfold d1X d1Y;rw[if_neg (by omega),if_neg (by omega)];exact fst_zero
theorem d2_zero:d2X 0=67108864∧d2Y 0=0:=by unfold d2X d2Y;rw[if_neg (by omega),if_neg (by omega)];exact d1_zero
theorem d2_q:d2X 1048576=0∧d2Y 1048576=67108864:=by
 unfold d2X d2Y
 rw[if_pos (by omega),if_pos (by omega)]
 obtain⟨h1,h2⟩:=d1_zero
 rw[Nat.sub_self,h1,h2]
 exact⟨by decide,rfl⟩
theorem ct_quarter (l:Int) (h:l%1048576=0):Cq.Near ⟨ctX l,ctY l⟩ ((E (plc l)).scale 1048576) (1/1000):=by
 have hp:=plc_lt l
 have hq:plc l=0∨plc l=1048576∨plc l=2097152∨plc l=3145728:=by
  have:(plc l:Int)=l%4194304:=by unfold plc;omega
  omega
 have tell:∀x y:Int,d3X (plc l)=x→d3Y (plc l)=y→ctX l=(2*x+64)/128∧ctY l=(2*y+64)/128:=fun x y h1 h2=>by
  unfold ctX ctY dcX dcY;rw[h1,h2];exact⟨rfl,rfl⟩
 have fin:∀(x y:Int) (u:Cq) (e:Rat),d3X (plc l)=x→d3Y (plc l)=y→((((2*x+64)/128:Int):Rat)=1048576*u.re∧(((2*y+64)/128:Int):Rat)=1048576*u.im)→Cq.Near u (E (plc l)) e→1048576*e≤1/1000 →
   Cq.Near ⟨ctX l,ctY l⟩ ((E (plc l)).scale 1048576) (1/1000):=fun x y u e h1 h2 hu hn he=>by
  obtain⟨t1,t2⟩:=tell x y h1 h2
  rw[t1,t2,hu.1,hu.2]
  exact(hn.scale 1048576 (by decide)).le he
 rcases hq with h0|h0|h0|h0
 ·refine fin 67108864 0 Cq.one 0 ?_ ?_ ⟨by decide +kernel,by decide +kernel⟩ ?_ (by decide +kernel)
  ·rw[h0];unfold d3X;rw[if_neg (by omega)];exact d2_zero.1
  ·rw[h0];unfold d3Y;rw[if_neg (by omega)];exact d2_zero.2
  ·rw[h0,E_zero];exact Cq.Near.rfl _
 ·refine fin 0 67108864 Cq.i (1/100000000000) ?_ ?_ ⟨by decide +kernel,by decide +kernel⟩ ?_ (by decide +kernel)
  ·rw[h0];unfold d3X;rw[if_neg (by omega)];exact d2_q.1
  ·rw[h0];unfold d3Y;rw[if_neg (by omega)];exact d2_q.2
  ·rw[h0];exact near_q
 ·refine fin (-67108864) 0 im1 (1/100000000000) ?_ ?_ ⟨by decide +kernel,by decide +kernel⟩ ?_ (by decide +kernel)
  ·rw[h0];unfold d3X;rw[if_pos (by omega),show 2097152-2097152=0 by omega,d2_zero.1]
  ·rw[h0];unfold d3Y;rw[if_pos (by omega),show 2097152-2097152=0 by omega,d2_zero.2];rfl
  ·rw[h0];exact near_h
 ·refine fin 0 (-67108864) (im1*Cq.i) (1*(1/100000000000)+1*(1/100000000000)) ?_ ?_ ⟨by decide +kernel,by decide +kernel⟩ ?_ (by decide +kernel)
  ·rw[h0];unfold d3X;rw[if_pos (by omega),show 3145728-2097152=1048576 by omega,d2_q.1];rfl
  ·rw[h0];unfold d3Y;rw[if_pos (by omega),show 3145728-2097152=1048576 by omega,d2_q.2]
  ·rw[h0,show 3145728=2097152+1048576 by omega,E_add]
   exact near_h.mul near_q (by decide) (by decide +kernel) (by decide) (by rw[E_nrm];decide +kernel)
end Go.Proofs.YticobgianbecpaaGreatDoor
