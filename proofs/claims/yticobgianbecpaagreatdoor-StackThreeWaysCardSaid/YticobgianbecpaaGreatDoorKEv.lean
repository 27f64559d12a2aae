/- Joined: TrueBase Ev EvQuo EvMake EvRoot EvRoot2 EvUnit EvTurn EvFade. -/
import Derived.Test.YticobgianbecpaaGreatDoorKMed
import Derived.Test.YticobgianbecpaaGreatDoorKTurn
namespace Go.Proofs.YticobgianbecpaaGreatDoor
theorem rtu_sq {n:Int} (h0:0≤n) (h1:n<4611686018427387904):n≤rtu n*rtu n:=by
 have sp:=rt_spec h0 h1
 by_cases e:rt n*rt n<n
 ·rw[show rtu n=rt n+1 from by unfold rtu;rw[if_pos e]];omega
 ·rw[show rtu n=rt n from by unfold rtu;rw[if_neg e]];omega
end Go.Proofs.YticobgianbecpaaGreatDoor
namespace Go.Proofs.YticobgianbecpaaGreatDoor
def Ev (p:Nat→Prop):Prop:=∃N,∀n,N≤n→p n
theorem Ev.of {p:Nat→Prop} (h:∀n,p n):Ev p:=⟨0,fun n _=>h n⟩
theorem Ev.and {p q:Nat→Prop} (h:Ev p) (k:Ev q):Ev fun n=>p n∧q n:=by
 obtain⟨N,h⟩:=h
 obtain⟨M,k⟩:=k
 exact⟨max N M,fun n hn=>⟨h n (by omega),k n (by omega)⟩⟩
theorem Ev.mono {p q:Nat→Prop} (h:Ev p) (k:∀n,p n→q n):Ev q:=by
 obtain⟨N,h⟩:=h
 exact⟨N,fun n hn=>k n (h n hn)⟩
theorem Ev.ex {p:Nat→Prop} (h:Ev p):∃n,p n:=by
 obtain⟨N,h⟩:=h
 exact⟨N,h N (Nat.le_refl _)⟩
def In (R:Res) (z:Nat→Cq):Prop:=Fine R∧R.q=0∧∀d:Rat,0<d→Ev fun n=>Cq.Near ((z n).scale 1048576) ⟨R.a,R.b⟩ (R.c+d)
theorem In.congr {R:Res}{z w:Nat→Cq} (h:In R z) (k:Ev fun n=>z n=w n):In R w :=
 ⟨h.1,h.2.1,fun d hd=>((h.2.2 d hd).and k).mono fun n ⟨p,q⟩=>by rw[← q];exact p⟩
theorem In.small {R:Res}{z:Nat→Cq} (h1:Fine R) (h2:R.q=0) (h:∀d:Rat,0<d→d≤1→Ev fun n=>Cq.Near ((z n).scale 1048576) ⟨R.a,R.b⟩ (R.c+d)):In R z:=by
 refine⟨h1,h2,fun d hd => ?_⟩
 by_cases c:d≤1
 ·exact h d hd c
 ·exact(h 1 (by decide) (by grind)).mono fun n p=>p.le (by grind)
theorem Cq.Near.cast {a b a' b':Cq}{e e':Rat} (h:Cq.Near a b e) (ha:a=a') (hb:b=b') (he:e≤e'):Cq.Near a' b' e':=by subst ha;subst hb;exact h.le he
theorem Cq.Near.neg {a b:Cq}{e:Rat} (h:Cq.Near a b e):Cq.Near (-a) (-b) e:=by
 refine⟨h.1,?_⟩
 have:=h.2
 have e1 : -a - -b = -(a-b):=by apply Cq.ext'<;>simp<;>grind
 rw[e1,Cq.nrm_neg];exact this
theorem Cq.Near.sub {a b c d:Cq}{e f:Rat} (h:Cq.Near a b e) (h2:Cq.Near c d f):Cq.Near (a-c) (b-d) (e+f) :=
 (h.add h2.neg).cast (by apply Cq.ext'<;>simp<;>grind) (by apply Cq.ext'<;>simp<;>grind) (by grind)
theorem Cq.Near.conj {a b:Cq}{e:Rat} (h:Cq.Near a b e):Cq.Near a.conj b.conj e:=by
 refine⟨h.1,?_⟩
 have e1:a.conj-b.conj=(a-b).conj:=by apply Cq.ext'<;>simp<;>grind
 rw[e1,Cq.nrm_conj];exact h.2
theorem Cq.Near.len {a b:Cq}{e A:Rat} (h:Cq.Near a b e) (hA:0≤A) (hb:b.nrm≤A*A):a.nrm≤(A+e)*(A+e):=by
 have t:=Cq.tri hA h.1 hb h.2
 have e1:b+(a-b)=a:=by apply Cq.ext'<;>simp<;>grind
 rwa [e1]at t
theorem fin_val {a b c:Int} (h:(fin a b c 0).q=0):(fin a b c 0).a=a∧(fin a b c 0).b=b∧(fin a b c 0).c=c∧Right a b c:=by
 unfold fin at *
 rw[if_neg (by decide)]at *
 by_cases k:Right a b c
 ·rw[if_pos k]
  obtain⟨h1,h2,h3,_⟩:=quad_good a b c
  exact⟨h1,h2,h3,k⟩
 ·rw[if_neg k,(quad_bad 8).2.2.2]at h
  exact absurd h (by decide)
theorem two_val {x y r x' y' r':Int} (h:Right x y r) (h':Right x' y' r') (R:Res):onTwo x y r x' y' r' R=R:=by unfold onTwo;rw[if_pos h,if_pos h']
theorem one_val {x y r:Int} (h:Right x y r) (R:Res):onOne x y r R=R:=by unfold onOne;rw[if_pos h]
section
variable {R S:Res}{z w:Nat→Cq}
theorem in_pl (h:In R z) (k:In S w) (hq:(pl R S).q=0):In (pl R S) fun n=>z n+w n:=by
 refine⟨fine_pl _ _,hq,fun d hd => ?_⟩
 have e:pl R S=fin (R.a+S.a) (R.b+S.b) (R.c+S.c) 0:=by unfold pl plusM;exact two_val h.1.right k.1.right _
 rw[e]at hq ⊢
 obtain⟨e1,e2,e3,_⟩:=fin_val hq
 rw[e1,e2,e3]
 refine((h.2.2 (d/2) (by grind)).and (k.2.2 (d/2) (by grind))).mono fun n ⟨p,q⟩ => ?_
 exact(p.add q).cast (by apply Cq.ext'<;>simp<;>grind) (by apply Cq.ext'<;>simp) (by push_cast;grind)
theorem in_mi (h:In R z) (k:In S w) (hq:(mi R S).q=0):In (mi R S) fun n=>z n-w n:=by
 refine⟨fine_mi _ _,hq,fun d hd => ?_⟩
 have e:mi R S=fin (R.a-S.a) (R.b-S.b) (R.c+S.c) 0:=by unfold mi minusM;exact two_val h.1.right k.1.right _
 rw[e]at hq ⊢
 obtain⟨e1,e2,e3,_⟩:=fin_val hq
 rw[e1,e2,e3]
 refine((h.2.2 (d/2) (by grind)).and (k.2.2 (d/2) (by grind))).mono fun n ⟨p,q⟩ => ?_
 exact(p.sub q).cast (by apply Cq.ext'<;>simp<;>grind) (by apply Cq.ext'<;>simp) (by push_cast;grind)
theorem in_cj (h:In R z) (hq:(cj R).q=0):In (cj R) fun n=>(z n).conj:=by
 refine⟨fine_cj _,hq,fun d hd => ?_⟩
 have e:cj R=fin R.a (-R.b) R.c 0:=by unfold cj conjM;exact one_val h.1.right _
 rw[e]at hq ⊢
 obtain⟨e1,e2,e3,_⟩:=fin_val hq
 rw[e1,e2,e3]
 refine(h.2.2 d hd).mono fun n p => ?_
 exact p.conj.cast (by apply Cq.ext'<;>simp<;>grind) (by apply Cq.ext'<;>simp) (by grind)
theorem in_tu (h:In R z) (hq:(tu R).q=0):In (tu R) fun n=>Cq.i*z n:=by
 refine⟨fine_tu _,hq,fun d hd => ?_⟩
 have e:tu R=fin (-R.b) R.a R.c 0:=by
  unfold tu turnedM
  rw[one_val h.1.right,if_pos (by unfold inPart;omega),qu_one]
  unfold tuX tuY
  rfl
 rw[e]at hq ⊢
 obtain⟨e1,e2,e3,_⟩:=fin_val hq
 rw[e1,e2,e3]
 refine(h.2.2 d hd).mono fun n p => ?_
 have t:=p.mul_left Cq.i 1 (by decide) (by decide +kernel)
 exact t.cast (by apply Cq.ext'<;>simp<;>grind) (by apply Cq.ext'<;>simp<;>grind) (by grind)
end
theorem half_sq {x y:Rat} (h1 : -(1/2)≤x) (h2:x≤1/2) (h3 : -(1/2)≤y) (h4:y≤1/2):x*x+y*y≤1*1:=by
 have k:∀x:Rat, -(1/2)≤x→x≤1/2→x*x≤1/4:=fun x h1 h2=>by
  rcases Rat.le_total (a:=0) (b:=x)with h|h
  ·have:=rsq_mono h h2;grind
  ·have:=rsq_mono (a := -x) (b:=1/2) (by grind) (by grind);grind
 have:=k x h1 h2
 have:=k y h3 h4
 grind
theorem rnd_half (x:Int) : -(1/2)≤((rnd x:Int):Rat)-1/1048576*x∧((rnd x:Int):Rat)-1/1048576*x≤1/2∧(inx x=false→((rnd x:Int):Rat)-1/1048576*x=0):=by
 have h1:2097152*rnd x≤2*x+1048576:=by unfold rnd;omega
 have h2:2*x+1048576≤2097152*rnd x+2097152:=by unfold rnd;omega
 have h0:inx x=false→1048576*rnd x=x:=fun h=>by
  unfold inx at h
  have h':x%1048576=0:=by simpa using h
  unfold rnd;omega
 generalize rnd x=q at *
 have h3:=Rat.intCast_le_intCast.2 h1
 have h4:=Rat.intCast_le_intCast.2 h2
 push_cast at h3 h4
 refine⟨by grind,by grind,fun h => ?_⟩
 have h5:=congrArg (fun x:Int=>(x:Rat)) (h0 h)
 push_cast at h5
 grind
theorem rnd_near (p q:Int):Cq.Near ⟨((rnd p:Int):Rat),((rnd q:Int):Rat)⟩ ((⟨p,q⟩:Cq).scale (1/1048576)) (b1 (inx p||inx q)):=by
 obtain⟨a1,a2,a3⟩:=rnd_half p
 obtain⟨c1,c2,c3⟩:=rnd_half q
 by_cases hp:inx p=false∧inx q=false
 ·rw[hp.1,hp.2,Bool.or_false,b1_false]
  refine⟨by decide,?_⟩
  have e1:=a3 hp.1
  have e2:=c3 hp.2
  unfold Cq.nrm
  simp only[Cq.sub_re,Cq.sub_im,Cq.scale_re,Cq.scale_im]
  rw[e1,e2]
  decide +kernel
 ·have:(inx p||inx q)=true:=by cases h1:inx p<;>cases h2:inx q<;>simp_all
  rw[this,b1_true]
  refine⟨by decide,?_⟩
  unfold Cq.nrm
  simp only[Cq.sub_re,Cq.sub_im,Cq.scale_re,Cq.scale_im]
  exact half_sq a1 a2 c1 c2
theorem ceil_ge (n b:Int) (hb:0<b):(n:Rat)≤(b:Rat)*((-(-n/b):Int):Rat):=by
 have:=Int.ediv_mul_le (-n) (show b≠0 by omega)
 have h:n≤b * -(-n/b):=by rw[Int.mul_neg,Int.mul_comm];omega
 have h2:=Rat.intCast_le_intCast.2 h
 rwa [Rat.intCast_mul]at h2
theorem right_len {a b c:Int} (h:Right a b c):(⟨a,b⟩:Cq).nrm≤(rtu (a*a+b*b):Rat)*(rtu (a*a+b*b):Rat)∧(0:Rat)≤(rtu (a*a+b*b):Rat)∧(rtu (a*a+b*b):Rat)≤1073741825:=by
 obtain⟨⟨h1,h2,h3,h4⟩,_⟩:=h
 have k:∀x:Int, -67108864≤x→x≤67108864→0≤x*x∧x*x≤4503599627370496:=fun x h1 h2=>by
  have a:=Int.mul_nonneg (show 0≤67108864-x by omega) (show 0≤67108864+x by omega)
  have e:(67108864-x)*(67108864+x)=4503599627370496-x*x:=by grind
  have n:0≤x*x:=(Int.le_total 0 x).elim (fun c=>Int.mul_nonneg c c) (fun c=>Int.mul_nonneg_of_nonpos_of_nonpos c c)
  omega
 have ka:=k a h1 h2
 have kb:=k b h3 h4
 have s:=rtu_sq (n:=a*a+b*b) (by omega) (by omega)
 have u:=rtu_bd (n:=a*a+b*b) (by omega) (by omega)
 generalize rtu (a*a+b*b)=A at *
 refine⟨?_,?_,?_⟩
 ·have:=Rat.intCast_le_intCast.2 s
  push_cast at this
  unfold Cq.nrm
  grind
 ·have:=Rat.intCast_le_intCast.2 u.1;push_cast at this;exact this
 ·have:=Rat.intCast_le_intCast.2 u.2;push_cast at this;exact this
theorem right_rad {a b c:Int} (h:Right a b c):(0:Rat)≤(c:Rat)∧(c:Rat)≤67108864:=by
 have h1:=Rat.intCast_le_intCast.2 h.2.1
 have h2:=Rat.intCast_le_intCast.2 h.2.2
 push_cast at h1 h2
 exact⟨h1,h2⟩
theorem in_ti {R S:Res}{z w:Nat→Cq} (h:In R z) (k:In S w) (hq:(ti R S).q=0):In (ti R S) fun n=>z n*w n:=by
 refine In.small (fine_ti _ _) hq fun d hd d1 => ?_
 have e:ti R S=fin (rnd (R.a*S.a-R.b*S.b)) (rnd (R.a*S.b+R.b*S.a)) (timesR R.a R.b R.c S.a S.b S.c) 0:=by unfold ti timesM;exact two_val h.1.right k.1.right _
 rw[e]at hq ⊢
 obtain⟨e1,e2,e3,_⟩:=fin_val hq
 rw[e1,e2,e3]
 clear e1 e2 e3 e hq
 refine((h.2.2 (d/8192) (by grind)).and (k.2.2 (d/8192) (by grind))).mono fun n ⟨p,q⟩ => ?_
 obtain⟨l1,A0,A1⟩:=right_len h.1.right
 obtain⟨l2,B0,B1⟩:=right_len k.1.right
 obtain⟨r0,r1⟩:=right_rad h.1.right
 obtain⟨s0,s1⟩:=right_rad k.1.right
 have t:=(p.mul q (A:=rtu (R.a*R.a+R.b*R.b)+(R.c+d/8192)) (B:=rtu (S.a*S.a+S.b*S.b)) (by grind) (p.len A0 l1) B0 l2).scale (1/1048576) (by decide +kernel)
 have u:=(rnd_near (R.a*S.a-R.b*S.b) (R.a*S.b+R.b*S.a)).symm
 have v:=(t.cast (b':=(⟨((R.a*S.a-R.b*S.b:Int):Rat),((R.a*S.b+R.b*S.a:Int):Rat)⟩:Cq).scale (1/1048576)) rfl (by apply Cq.ext'<;>simp) (Rat.le_refl)).trans u
 refine v.cast (by apply Cq.ext'<;>simp<;>grind) rfl ?_
 unfold timesR
 have up:=ceil_ge (rtu (R.a*R.a+R.b*R.b)*S.c+rtu (S.a*S.a+S.b*S.b)*R.c+R.c*S.c) 1048576 (by decide)
 push_cast at up ⊢
 generalize ((-(rtu (R.a*R.a+R.b*R.b)*S.c+rtu (S.a*S.a+S.b*S.b)*R.c+R.c*S.c)/1048576:Int):Rat)=X at *
 generalize (rtu (R.a*R.a+R.b*R.b):Rat)=A at *
 generalize (rtu (S.a*S.a+S.b*S.b):Rat)=B at *
 generalize (R.c:Rat)=r at *
 generalize (S.c:Rat)=s at *
 generalize ((b1 (inx (R.a*S.a-R.b*S.b)||inx (R.a*S.b+R.b*S.a)):Int):Rat)=J at *
 have m1:d*(A+B+r+s+d/8192)≤d*4294967296:=Rat.mul_le_mul_of_nonneg_left (by grind) (by grind)
 grind
theorem int_le {x y:Int} (K:Rat) (hK:0≤K) (h:∀d:Rat,0<d→d≤1→(x:Rat)≤y+K*d):x≤y:=by
 have hp:0<(2*(K+1))⁻¹:=by
  have:(0:Rat)<2*(K+1):=by grind
  exact Rat.inv_pos.2 this
 have hm:(2*(K+1))*(2*(K+1))⁻¹=1:=Rat.mul_inv_cancel _ (by grind)
 generalize (2*(K+1))⁻¹=d at *
 have k0:=Rat.mul_nonneg hK (show 0≤d by grind)
 have t:=h d hp (by grind)
 have:(x:Rat)<((y+1:Int):Rat):=by push_cast;grind
 have:=Rat.intCast_lt_intCast.1 this
 omega
theorem In.meet {R S:Res}{z:Nat→Cq} (h:In R z) (k:In S z):(R.a-S.a)*(R.a-S.a)+(R.b-S.b)*(R.b-S.b)≤(R.c+S.c)*(R.c+S.c):=by
 obtain⟨r0,r1⟩:=right_rad h.1.right
 obtain⟨s0,s1⟩:=right_rad k.1.right
 refine int_le 1000000000 (by decide) fun d hd d1 => ?_
 obtain⟨n,p,q⟩:=((h.2.2 d hd).and (k.2.2 d hd)).ex
 have t:=(p.symm.trans q).2
 unfold Cq.nrm at t
 simp only[Cq.sub_re,Cq.sub_im]at t
 push_cast
 generalize (R.c:Rat)=r at *
 generalize (S.c:Rat)=s at *
 have m1:d*(4*(r+s)+4*d)≤d*1000000000:=Rat.mul_le_mul_of_nonneg_left (by grind) (by grind)
 grind
end Go.Proofs.YticobgianbecpaaGreatDoor
namespace Go.Proofs.YticobgianbecpaaGreatDoor
theorem rle_of_mul {a b k:Rat} (hk:0<k) (h:a*k≤b*k):a≤b:=Rat.le_of_mul_le_mul_right h hk
theorem rdiv_mul (a b:Rat) (hb:b≠0):a/b*b=a:=by rw[Rat.div_def,Rat.mul_assoc,Rat.inv_mul_cancel _ hb,Rat.mul_one]
theorem Cq.Near.far {Y c:Cq}{e D:Rat} (h:Cq.Near Y c e) (hD:D*D≤c.nrm) (he:e<D):(D-e)*(D-e)≤Y.nrm:=by
 rcases Rat.le_total (a:=(D-e)*(D-e)) (b:=Y.nrm)with k|k
 ·exact k
 ·by_cases k2:Y.nrm=(D-e)*(D-e)
  ·rw[k2];exact Rat.le_refl
  ·exfalso
   have e0:=h.1
   have g0:0<D-e:=by grind
   have hy:=Y.nrm_nn
   have dm:=rdiv_mul Y.nrm (D-e) (by grind)
   have d0:0≤Y.nrm/(D-e):=by
    refine rle_of_mul g0 ?_
    rw[dm];grind
   have d1:Y.nrm/(D-e)<D-e:=by
    rcases Rat.le_total (a:=D-e) (b:=Y.nrm/(D-e))with c|c
    ·have:=Rat.mul_le_mul_of_nonneg_right c (show 0≤D-e by grind)
     rw[dm]at this;grind
    ·by_cases c2:Y.nrm/(D-e)=D-e
     ·rw[c2]at dm;grind
     ·grind
   generalize Y.nrm/(D-e)=q at *
   have a1:Y.nrm≤((q+(D-e))/2)*((q+(D-e))/2):=by
    have:=rsq (q-(D-e))
    grind
   have t:=Cq.Near.len h.symm (A:=(q+(D-e))/2) (by grind) a1
   have lt:(q+(D-e))/2+e<D:=by grind
   have:=Rat.mul_lt_mul_of_pos_right lt (show 0<D by grind)
   have:=Rat.mul_le_mul_of_nonneg_left (show(q+(D-e))/2+e≤D by grind) (show 0≤(q+(D-e))/2+e by grind)
   grind
theorem srq_half (n b:Int) (hb:0<b) : -(1/2)≤((srq n b:Int):Rat)-1048576*n/b∧((srq n b:Int):Rat)-1048576*n/b≤1/2∧(n*1048576%b=0→((srq n b:Int):Rat)-1048576*n/b=0):=by
 have h1:2*b*srq n b≤2*(n*1048576)+b:=by unfold srq;exact Int.mul_ediv_self_le (by omega)
 have h2:2*(n*1048576)+b<2*b*srq n b+2*b:=by
  have:=Int.lt_mul_ediv_self_add (x:=2*(n*1048576)+b) (show 0<2*b by omega)
  unfold srq;omega
 have h0:n*1048576%b=0→b*srq n b=n*1048576:=fun h=>by
  have e:n*1048576=b*(n*1048576/b):=by have:=Int.mul_ediv_add_emod (n*1048576) b;omega
  generalize n*1048576/b=k at e
  have:srq n b=k:=by
   unfold srq
   rw[e]
   rw[show 2*(b*k)+b=b+2*b*k by grind,Int.add_mul_ediv_left _ _ (by omega),Int.ediv_eq_zero_of_lt (by omega) (by omega)]
   omega
  rw[this,e]
 generalize srq n b=q at *
 have b0:(0:Rat)<(b:Rat):=by have:=Rat.intCast_lt_intCast.2 hb;push_cast at this;exact this
 have h3:=Rat.intCast_le_intCast.2 h1
 have h4:=Rat.intCast_lt_intCast.2 h2
 push_cast at h3 h4
 have dm:=rdiv_mul (1048576*n) b (by grind)
 generalize (1048576*n/b:Rat)=x at *
 refine⟨?_,?_,fun h => ?_⟩
 ·refine rle_of_mul b0 ?_;grind
 ·refine rle_of_mul b0 ?_;grind
 ·have h5:=congrArg (fun x:Int=>(x:Rat)) (h0 h)
  push_cast at h5
  have:(q-x)*b=0:=by grind
  rcases Rat.mul_eq_zero.1 this with c|c
  ·exact c
  ·grind
theorem qv_is {n:Int}{N:Nat} (h : -67108864≤qv n N∧qv n N≤67108864):qv n N=srq n N∧qi n N=(n*1048576%(N:Int) != 0):=by
 unfold qv qi at *
 by_cases g:qGreat n N
 ·rw[if_pos g]at h;omega
 ·rw[if_neg g,if_neg g];exact⟨rfl,rfl⟩
theorem qu_is {a N:Nat} (h:qu2 a N≤67108864):qu2 a N = -(-((a:Int)*1048576)/(N:Int)):=by
 unfold qu2 at *
 by_cases g:2147483647≤a*1048576/N
 ·rw[if_pos g]at h;omega
 ·rw[if_neg g]
theorem quo_near {a b c d:Int}{N:Nat} (hN:(N:Int)=c*c+d*d) (h0:0<N) (h1 : -67108864≤qv (a*c+b*d) N∧qv (a*c+b*d) N≤67108864) (h2 : -67108864≤qv (b*c-a*d) N∧qv (b*c-a*d) N≤67108864) :
  ∃k:Cq,k*⟨c,d⟩=(⟨a,b⟩:Cq).scale 1048576∧Cq.Near ⟨((qv (a*c+b*d) N:Int):Rat),((qv (b*c-a*d) N:Int):Rat)⟩ k (b1 (qi (a*c+b*d) N||qi (b*c-a*d) N)):=by
 obtain⟨e1,i1⟩:=qv_is h1
 obtain⟨e2,i2⟩:=qv_is h2
 obtain⟨a1,a2,a3⟩:=srq_half (a*c+b*d) N (by omega)
 obtain⟨c1,c2,c3⟩:=srq_half (b*c-a*d) N (by omega)
 have b0:(0:Rat)<((N:Int):Rat):=by have:=Rat.intCast_lt_intCast.2 (show(0:Int)<(N:Int)by omega);push_cast at this;exact this
 have dm:=rdiv_mul (1048576*(a*c+b*d:Int)) (N:Int) (by grind)
 have dn:=rdiv_mul (1048576*(b*c-a*d:Int)) (N:Int) (by grind)
 refine⟨⟨1048576*(a*c+b*d:Int)/(N:Int),1048576*(b*c-a*d:Int)/(N:Int)⟩,?_,?_⟩
 ·rw[hN]at dm dn b0 ⊢
  push_cast at dm dn b0 ⊢
  generalize (1048576*((a:Rat)*c+b*d)/(c*c+d*d):Rat)=x at *
  generalize (1048576*((b:Rat)*c-a*d)/(c*c+d*d):Rat)=y at *
  apply Cq.ext'
  ·simp
   have:(x*c-y*d-1048576*a)*((c:Rat)*c+d*d)=0:=by grind
   rcases Rat.mul_eq_zero.1 this with k|k<;>grind
  ·simp
   have:(x*d+y*c-1048576*b)*((c:Rat)*c+d*d)=0:=by grind
   rcases Rat.mul_eq_zero.1 this with k|k<;>grind
 ·rw[e1,e2,i1,i2]
  by_cases hp:(a*c+b*d)*1048576%(N:Int)=0∧(b*c-a*d)*1048576%(N:Int)=0
  ·have e3:=a3 hp.1
   have e4:=c3 hp.2
   rw[hp.1,hp.2]
   refine⟨by simp[b1_false],?_⟩
   unfold Cq.nrm
   simp only[Cq.sub_re,Cq.sub_im]
   rw[e3,e4]
   simp[b1_false]
   decide +kernel
  ·have:((a*c+b*d)*1048576%(N:Int) != 0||(b*c-a*d)*1048576%(N:Int) != 0)=true:=by
    simp only[Bool.or_eq_true,bne_iff_ne]
    by_cases c:(a*c+b*d)*1048576%(N:Int)=0
    ·exact .inr fun h=>hp ⟨c,h⟩
    ·exact .inl c
   rw[this,b1_true]
   refine⟨by decide,?_⟩
   unfold Cq.nrm
   simp only[Cq.sub_re,Cq.sub_im]
   exact half_sq a1 a2 c1 c2
theorem quo_point {X Y cR cS κ Q:Cq}{A B D r s v d d':Rat} (p:Cq.Near X cR (r+d')) (q:Cq.Near Y cS (s+d')) (A0:0≤A) (A1:A≤1073741825) (l1:cR.nrm≤A*A) (B0:0≤B) (B1:B≤1073741825) (l2:cS.nrm≤B*B)
  (lD:D*D≤cS.nrm) (r0:0≤r) (s0:0≤s) (cD:s+1≤D) (cL:D≤1073741824) (hκ:κ*cS=cR.scale 1048576) (hQ:Q*Y=X.scale 1048576) (cV0:0≤v) (cV:v≤67108864)
  (up:(r*B+A*s)*1048576≤(D-s)*D*v) (d0':0<d') (d2:d=d'*1152921504606846976) (d1:d≤1):Cq.Near Q κ (v+d):=by
 have far:=q.far lD (by grind)
 have t1:=((p.mul_left cS B B0 l2).sub (q.mul_left cR A A0 l1)).2
 have id1:(Q-κ)*(Y*cS)=(cS*X-cR*Y-(cS*cR-cR*cS)).scale 1048576:=by
  have e1:=congrArg Cq.re hκ
  have e2:=congrArg Cq.im hκ
  have e3:=congrArg Cq.re hQ
  have e4:=congrArg Cq.im hQ
  clear p q far t1 l1 l2 lD up
  simp at e1 e2 e3 e4
  apply Cq.ext'<;>simp<;>grind
 have n1:(Q-κ).nrm*(Y.nrm*cS.nrm)≤(1048576*(B*(r+d')+A*(s+d')))*(1048576*(B*(r+d')+A*(s+d'))):=by
  have:=congrArg Cq.nrm id1
  rw[Cq.nrm_mul,Cq.nrm_mul,Cq.nrm_scale]at this
  rw[this]
  have:=Rat.mul_le_mul_of_nonneg_left t1 (show(0:Rat)≤1048576*1048576 by decide +kernel)
  generalize (cS*X-cR*Y-(cS*cR-cR*cS)).nrm=T at *
  clear id1 t1 p q far hκ hQ l1 l2 lD up
  grind
 have n2:((D-(s+d'))*D)*((D-(s+d'))*D)≤Y.nrm*cS.nrm:=by
  have:=rmul_le (rsq (D-(s+d'))) far (rsq D) lD
  have e:((D-(s+d'))*D)*((D-(s+d'))*D)=(D-(s+d'))*(D-(s+d'))*(D*D):=by grind
  rw[e];exact this
 have nn:=(Q-κ).nrm_nn
 refine⟨by grind,?_⟩
 clear id1 t1 p q far hκ hQ l1 l2 lD
 generalize (Q-κ).nrm=E2 at *
 generalize Y.nrm*cS.nrm=YC at *
 have G1:0<(D-(s+d'))*D:=Rat.mul_pos (by grind) (by grind)
 have key:1048576*(B*(r+d')+A*(s+d'))≤(v+d)*((D-(s+d'))*D):=by
  have k1:D≤(D-s)*D:=by have:=Rat.mul_le_mul_of_nonneg_right (show 1≤D-s by grind) (show 0≤D by grind);grind
  have k2:v*D≤67108864*1073741824:=rmul_le cV0 cV (by grind) cL
  have k3:=Rat.mul_le_mul_of_nonneg_left k2 (show 0≤d' by grind)
  have k4:=Rat.mul_le_mul_of_nonneg_left k1 (show 0≤d by grind)
  have k5:d*(d'*D)≤1*(d'*1073741824):=rmul_le (by grind) d1 (Rat.mul_nonneg (by grind) (by grind)) (Rat.mul_le_mul_of_nonneg_left cL (by grind))
  have k6:=Rat.mul_le_mul_of_nonneg_left (show A+B≤2147483650 by grind) (show 0≤d' by grind)
  have k7:=Rat.mul_le_mul_of_nonneg_left (show 1≤D by grind) (show 0≤d by grind)
  clear n1 n2 nn
  grind
 have m1:E2*(((D-(s+d'))*D)*((D-(s+d'))*D))≤E2*YC:=Rat.mul_le_mul_of_nonneg_left n2 nn
 have m2:=rsq_mono (a:=1048576*(B*(r+d')+A*(s+d'))) (Rat.mul_nonneg (by decide) (by have:=Rat.mul_nonneg B0 (show 0≤r+d' by grind);have:=Rat.mul_nonneg A0 (show 0≤s+d' by grind);grind)) key
 refine rle_of_mul (Rat.mul_pos G1 G1) (Rat.le_trans m1 (Rat.le_trans n1 (Rat.le_trans m2 ?_)))
 generalize (D-(s+d'))*D=G at *
 clear n1 n2 m1 m2 key up
 have:(v+d)*G*((v+d)*G)=(v+d)*(v+d)*(G*G):=by grind
 rw[this];exact Rat.le_refl
theorem in_qt {R S:Res}{z w u:Nat→Cq} (h:In R z) (k:In S w) (hu:Ev fun n=>u n*w n=z n) (hq:(qt R S).q=0):In (qt R S) u:=by
 refine In.small (fine_qt _ _) hq fun d hd d1 => ?_
 have e:qt R S=quoR R.a R.b R.c S.a S.b S.c:=by unfold qt quotM;exact two_val h.1.right k.1.right _
 rw[e]at hq ⊢
 unfold quoR at hq ⊢
 by_cases c:rt (S.a*S.a+S.b*S.b)≤S.c
 ·rw[if_pos c,(quad_bad 9).2.2.2]at hq;exact absurd hq (by decide)
 rw[if_neg c]at hq ⊢
 obtain⟨e1,e2,e3,hf⟩:=fin_val hq
 rw[e1,e2,e3]
 clear e1 e2 e3 e hq
 have fR:=h.1.right
 have fS:=k.1.right
 obtain⟨l1,A0,A1⟩:=right_len fR
 obtain⟨l2,B0,B1⟩:=right_len fS
 obtain⟨r0,r1⟩:=right_rad fR
 obtain⟨s0,s1⟩:=right_rad fS
 have sq:∀x:Int, -67108864≤x→x≤67108864→0≤x*x∧x*x≤4503599627370496:=fun x h1 h2=>by
  have a:=Int.mul_nonneg (show 0≤67108864-x by omega) (show 0≤67108864+x by omega)
  have e:(67108864-x)*(67108864+x)=4503599627370496-x*x:=by grind
  have n:0≤x*x:=(Int.le_total 0 x).elim (fun c=>Int.mul_nonneg c c) (fun c=>Int.mul_nonneg_of_nonpos_of_nonpos c c)
  omega
 have qa:=sq S.a fS.1.1 fS.1.2.1
 have qb:=sq S.b fS.1.2.2.1 fS.1.2.2.2
 have rs:=rt_spec (n:=S.a*S.a+S.b*S.b) (by omega) (by omega)
 have rl:=rt_le (n:=S.a*S.a+S.b*S.b) (b:=1073741824) (by omega) (by omega) (by omega) (by omega)
 have r00:=rt_nonneg (S.a*S.a+S.b*S.b)
 have u1:=rtu_bd (n:=R.a*R.a+R.b*R.b) (by have:=sq R.a fR.1.1 fR.1.2.1;have:=sq R.b fR.1.2.2.1 fR.1.2.2.2;omega) (by have:=sq R.a fR.1.1 fR.1.2.1;have:=sq R.b fR.1.2.2.1 fR.1.2.2.2;omega)
 have u2:=rtu_bd (n:=S.a*S.a+S.b*S.b) (by omega) (by omega)
 have D1:1≤rt (S.a*S.a+S.b*S.b):=by have:=fS.2.1;omega
 have N1:1≤S.a*S.a+S.b*S.b:=by have:=Int.mul_le_mul D1 D1 (by decide) r00;omega
 have eN:(((S.a*S.a+S.b*S.b).toNat:Nat):Int)=S.a*S.a+S.b*S.b:=Int.toNat_of_nonneg (by omega)
 have fc:=hf.2.2
 have jb:=b1_bd (qi (R.a*S.a+R.b*S.b) (S.a*S.a+S.b*S.b).toNat||qi (R.b*S.a-R.a*S.b) (S.a*S.a+S.b*S.b).toNat)
 obtain⟨κ,hκ,nκ⟩:=quo_near (a:=R.a) (b:=R.b) eN (by omega) ⟨hf.1.1,hf.1.2.1⟩ ⟨hf.1.2.2.1,hf.1.2.2.2⟩
 have m0:0≤R.c*rtu (S.a*S.a+S.b*S.b)+rtu (R.a*R.a+R.b*R.b)*S.c:=Int.add_nonneg (Int.mul_nonneg fR.2.1 u2.1) (Int.mul_nonneg u1.1 fS.2.1)
 have g0:1≤(rt (S.a*S.a+S.b*S.b)-S.c)*rt (S.a*S.a+S.b*S.b):=by
  have:=Int.mul_le_mul (show 1≤rt (S.a*S.a+S.b*S.b)-S.c by omega) D1 (by decide) (by omega);omega
 have eM:=Int.toNat_of_nonneg m0
 have eG:=Int.toNat_of_nonneg (show 0≤(rt (S.a*S.a+S.b*S.b)-S.c)*rt (S.a*S.a+S.b*S.b)by omega)
 have V1:=Int.le_trans (Int.le_add_of_nonneg_right jb.1) fc
 have qe:=qu_is V1
 have up:=ceil_ge ((R.c*rtu (S.a*S.a+S.b*S.b)+rtu (R.a*R.a+R.b*R.b)*S.c)*1048576) ((rt (S.a*S.a+S.b*S.b)-S.c)*rt (S.a*S.a+S.b*S.b)) (by omega)
 rw[eM,eG]at qe
 rw[← qe]at up
 have V0:0≤qu2 (R.c*rtu (S.a*S.a+S.b*S.b)+rtu (R.a*R.a+R.b*R.b)*S.c).toNat ((rt (S.a*S.a+S.b*S.b)-S.c)*rt (S.a*S.a+S.b*S.b)).toNat:=by
  unfold qu2
  split
  ·omega
  ·rw[eM,eG]
   have:=Int.ediv_nonpos_of_nonpos_of_neg (n := -((R.c*rtu (S.a*S.a+S.b*S.b)+rtu (R.a*R.a+R.b*R.b)*S.c)*1048576)) (s:=(rt (S.a*S.a+S.b*S.b)-S.c)*rt (S.a*S.a+S.b*S.b)) (by omega) (by omega)
   omega
 clear qe eM eG hf jb fc
 generalize qu2 (R.c*rtu (S.a*S.a+S.b*S.b)+rtu (R.a*R.a+R.b*R.b)*S.c).toNat ((rt (S.a*S.a+S.b*S.b)-S.c)*rt (S.a*S.a+S.b*S.b)).toNat=V at *
 generalize b1 (qi (R.a*S.a+R.b*S.b) (S.a*S.a+S.b*S.b).toNat||qi (R.b*S.a-R.a*S.b) (S.a*S.a+S.b*S.b).toNat)=J at *
 generalize hc:(⟨((qv (R.a*S.a+R.b*S.b) (S.a*S.a+S.b*S.b).toNat:Int):Rat),((qv (R.b*S.a-R.a*S.b) (S.a*S.a+S.b*S.b).toNat:Int):Rat)⟩:Cq)=W at *
 clear hc eN
 have lD:(rt (S.a*S.a+S.b*S.b):Rat)*(rt (S.a*S.a+S.b*S.b):Rat)≤(⟨S.a,S.b⟩:Cq).nrm:=by
  have:=Rat.intCast_le_intCast.2 rs.1
  push_cast at this
  unfold Cq.nrm
  grind
 have cD:=Rat.intCast_le_intCast.2 (show S.c+1≤rt (S.a*S.a+S.b*S.b)by omega)
 have cL:=Rat.intCast_le_intCast.2 rl
 have cV:=Rat.intCast_le_intCast.2 V1
 have cV0:=Rat.intCast_le_intCast.2 V0
 push_cast at cD cL cV cV0 up
 clear rs rl r00 u1 u2 D1 N1 m0 g0 V1 V0 sq qa qb c
 refine(((h.2.2 (d/1152921504606846976) (by grind)).and (k.2.2 (d/1152921504606846976) (by grind))).and hu).mono fun n ⟨⟨p,q⟩,hn⟩ => ?_
 have t:=quo_point (Q:=(u n).scale 1048576) p q A0 A1 l1 B0 B1 l2 lD r0 s0 (by grind) cL hκ (by rw[← hn];apply Cq.ext'<;>simp<;>grind) cV0 cV up (by grind) (by grind) d1
 exact(t.trans nκ.symm).cast rfl rfl (by push_cast;grind)
end Go.Proofs.YticobgianbecpaaGreatDoor
namespace Go.Proofs.YticobgianbecpaaGreatDoor
theorem great_nat (x:Rat):∃n:Nat,x<n:=by
 refine⟨(x.floor+1).toNat,?_⟩
 have h:=Rat.lt_floor_add_one x
 have h2:=Rat.intCast_le_intCast.2 (Int.self_le_toNat (x.floor+1))
 have h3:(((x.floor+1).toNat:Int):Rat)=(((x.floor+1).toNat:Nat):Rat):=rfl
 rw[h3]at h2
 grind
theorem sqrt_dn (v:Rat) (hv:0≤v) (e:Rat) (he:0<e):∃s:Rat,0≤s∧s*s≤v∧v≤s*s+e:=by
 have key:∀d:Rat,0<d→∀N:Nat,∃k:Nat,((k:Rat)*d)*(k*d)≤v∧(k=N∨v<((k:Rat)+1)*d*(((k:Rat)+1)*d)):=fun d hd N=>by
  induction N with
  | zero=>exact⟨0,by simp;grind,.inl rfl⟩
  | succ n ih =>
   obtain⟨k,h1,h2⟩:=ih
   by_cases c:v<((k:Rat)+1)*d*(((k:Rat)+1)*d)
   ·exact⟨k,h1,.inr c⟩
   ·rcases h2 with rfl|h2
    ·refine⟨k+1,?_,.inl rfl⟩
     push_cast
     grind
    ·exact absurd h2 c
 have g0:(0:Rat)<2*v+3+e:=by grind
 have m:=rdiv_mul e (2*v+3+e) (by grind)
 have d0:0<e/(2*v+3+e):=(Rat.lt_div_iff g0).2 (by grind)
 have d1:e/(2*v+3+e)≤1:=by refine rle_of_mul g0 ?_;rw[m];grind
 generalize e/(2*v+3+e)=d at *
 obtain⟨N,hN⟩:=great_nat ((v+1)/d)
 have hN':v+1<N*d:=(Rat.div_lt_iff d0).1 hN
 obtain⟨k,h1,h2⟩:=key d d0 N
 have h3:v<((k:Rat)+1)*d*(((k:Rat)+1)*d):=by
  rcases h2 with rfl|h2
  ·have:=rsq_mono (a:=v+1) (by grind) (show v+1≤(k:Rat)*d by grind)
   have n:=rsq v
   exfalso;grind
  ·exact h2
 have k0:(0:Rat)≤(k:Rat)*d:=Rat.mul_nonneg (by have:=Rat.natCast_nonneg (a:=k);exact this) (by grind)
 refine⟨(k:Rat)*d,k0,h1,?_⟩
 have e1:((k:Rat)+1)*d=k*d+d:=by grind
 rw[e1]at h3
 generalize (k:Rat)*d=s at *
 have s1:s≤v+1:=by
  refine rle_of_sq (by grind) ?_
  have:=rsq v
  grind
 have t:=Rat.mul_le_mul_of_nonneg_right s1 (show 0≤d by grind)
 have t2:=Rat.mul_le_mul_of_nonneg_right d1 (show 0≤d by grind)
 have t3:=Rat.mul_nonneg (show 0≤d by grind) (show 0≤e by grind)
 grind
theorem sqrt_up (v:Rat) (hv:0≤v) (e:Rat) (he:0<e):∃s:Rat,0≤s∧v≤s*s∧s*s≤v+e:=by
 obtain⟨s,h0,h1,h2⟩:=sqrt_dn (v+e) (by grind) e he
 exact⟨s,h0,by grind,h1⟩
def Btw (lo hi:Int) (x:Nat→Rat):Prop:=∀d:Rat,0<d→Ev fun n=>(lo:Rat)-d≤1048576*x n∧1048576*x n≤hi+d
theorem Btw.of {lo hi:Int}{x:Nat→Rat} (h:∀n,(lo:Rat)≤1048576*x n∧1048576*x n≤hi):Btw lo hi x:=fun d hd=>Ev.of fun n=>by have:=h n;grind
theorem range_val {lo hi:Int} (h:(ofRangeM lo hi).q=0):ofRangeM lo hi = .good ((lo+hi)/2) 0 (hi-(lo+hi)/2)∧lo≤hi∧Right ((lo+hi)/2) 0 (hi-(lo+hi)/2):=by
 unfold ofRangeM at h ⊢
 by_cases c : -67108864≤lo∧lo≤67108864 ∧ -67108864≤hi∧hi≤67108864
 ·rw[if_neg (by simpa using c)]at h ⊢
  by_cases c2:hi<lo
  ·rw[if_pos c2,(quad_bad 10).2.2.2]at h;exact absurd h (by decide)
  ·rw[if_neg c2];exact⟨rfl,by omega,by unfold Right Fits;omega⟩
 ·rw[if_pos c,(quad_bad 2).2.2.2]at h;exact absurd h (by decide)
theorem real_nrm (x:Rat):(⟨x,0⟩:Cq).nrm=x*x:=by unfold Cq.nrm;grind
theorem near_real {x m r:Rat} (_h0:0≤r) (h1 : -r≤x-m) (h2:x-m≤r):(x-m)*(x-m)≤r*r:=by
 rcases Rat.le_total (a:=0) (b:=x-m)with h|h
 ·exact rsq_mono h h2
 ·have:=rsq_mono (a := -(x-m)) (b:=r) (by grind) (by grind);grind
theorem in_range {lo hi:Int}{x:Nat→Rat} (h:Btw lo hi x) (hq:(ofRangeM lo hi).q=0):In (ofRangeM lo hi) fun n=>⟨x n,0⟩:=by
 obtain⟨e,hl,hr⟩:=range_val hq
 obtain⟨e1,e2,e3,e4⟩:=quad_good ((lo+hi)/2) 0 (hi-(lo+hi)/2)
 rw[e]
 refine⟨hr,e4,fun d hd=>(h d hd).mono fun n ⟨p,q⟩ => ?_⟩
 rw[e1,e2,e3]
 have m1:=Rat.intCast_le_intCast.2 (show 2*((lo+hi)/2)≤lo+hi by omega)
 have m2:=Rat.intCast_le_intCast.2 (show(lo+hi)/2≤hi by omega)
 push_cast at m1 m2 ⊢
 generalize (((lo+hi)/2:Int):Rat)=m at *
 refine⟨by grind,?_⟩
 unfold Cq.nrm
 simp only[Cq.sub_re,Cq.sub_im,Cq.scale_re,Cq.scale_im]
 have:=near_real (x:=1048576*x n) (m:=m) (r:=hi-m+d) (by grind) (by grind) (by grind)
 grind
theorem in_frac {num den:Int} (hq:(ofFracM num den).q=0):In (ofFracM num den) fun _=>⟨(num:Rat)/den,0⟩:=by
 have f:Fine (ofFracM num den)∧ofFracM num den=fin (srq num den) 0 (b1 (num*1048576%den != 0)) 0∧1≤den:=by
  unfold ofFracM at hq ⊢
  by_cases c : -1000000000≤num∧num≤1000000000∧1≤den∧den≤1000000000
  ·rw[if_pos c]at hq ⊢
   refine⟨?_,rfl,c.2.2.1⟩
   have:=(fin_val hq).2.2.2
   unfold fin
   rw[if_neg (by decide),if_pos this];exact this
  ·rw[if_neg c,(quad_bad 2).2.2.2]at hq;exact absurd hq (by decide)
 obtain⟨f1,e,d1⟩:=f
 refine⟨f1,hq,fun d hd=>Ev.of fun n => ?_⟩
 rw[e]at hq ⊢
 obtain⟨e1,e2,e3,hr⟩:=fin_val hq
 rw[e1,e2,e3]
 obtain⟨s1,s2,s3⟩:=srq_half num den (by omega)
 have b0:(0:Rat)<(den:Rat):=by have:=Rat.intCast_lt_intCast.2 (show 0<den by omega);push_cast at this;exact this
 have q1:=rdiv_mul (num:Rat) den (by grind)
 have q2:=rdiv_mul (1048576*num:Rat) den (by grind)
 have hx:(1048576*num/den:Rat)=1048576*(num/den):=by
  have:(1048576*num/den-1048576*(num/den):Rat)*den=0:=by grind
  rcases Rat.mul_eq_zero.1 this with k|k<;>grind
 rw[hx]at s1 s2 s3
 generalize (num/den:Rat)=x at *
 have jb:=right_rad hr
 refine⟨by grind,?_⟩
 unfold Cq.nrm
 simp only[Cq.sub_re,Cq.sub_im,Cq.scale_re,Cq.scale_im]
 by_cases c:num*1048576%den=0
 ·have:=s3 c
  have hf:(num*1048576%den != 0)=false:=by simpa using c
  rw[hf,b1_false]
  have:=near_real (x:=1048576*x) (m:=srq num den) (r:=((0:Int):Rat)+d) (by push_cast;grind) (by push_cast;grind) (by push_cast;grind)
  push_cast at this ⊢
  grind
 ·have:(num*1048576%den != 0)=true:=by simpa using c
  rw[this,b1_true]
  have:=near_real (x:=1048576*x) (m:=srq num den) (r:=((1:Int):Rat)+d) (by push_cast;grind) (by push_cast;grind) (by push_cast;grind)
  push_cast at this ⊢
  grind
theorem root_btw {lo hi:Int}{y:Nat→Rat} (h0:0≤lo) (h1:lo≤hi) (h2:hi≤67108864) (hy:∀n,0≤y n) (h:Btw lo hi fun n=>y n*y n):Btw (rt (lo*1048576)) (rtu (hi*1048576)) y:=by
 have s1:=rt_spec (n:=lo*1048576) (by omega) (by omega)
 have s2:=rtu_sq (n:=hi*1048576) (by omega) (by omega)
 have n1:=rt_nonneg (lo*1048576)
 have n2:=rt_nonneg (hi*1048576)
 have n3:=rtu_bounds (n:=hi*1048576)
 have a1:=Rat.intCast_le_intCast.2 s1.1
 have a2:=Rat.intCast_le_intCast.2 s2
 have a3:=Rat.intCast_le_intCast.2 n1
 have a4:=Rat.intCast_le_intCast.2 (show 0≤rtu (hi*1048576)by omega)
 push_cast at a1 a2 a3 a4
 clear s1 s2 n1 n2 n3 h0 h1 h2
 intro d hd
 have e0:=Rat.mul_pos hd hd
 refine(h (d*d/1048576) (by grind)).mono fun n ⟨p,q⟩ => ?_
 have y0:=hy n
 simp only at p q
 generalize y n=Y at *
 clear h hy
 generalize (rt (lo*1048576):Rat)=L at *
 generalize (rtu (hi*1048576):Rat)=U at *
 refine⟨?_,?_⟩
 ·rcases Rat.le_total (a:=L) (b:=d)with c|c
  ·grind
  ·refine rle_of_sq (by grind) ?_
   have:=Rat.mul_le_mul_of_nonneg_right c (show 0≤d by grind)
   grind
 ·refine rle_of_sq (by grind) ?_
  have:=Rat.mul_nonneg a4 (show 0≤d by grind)
  grind
theorem in_real {lo hi:Int}{y:Nat→Rat}{v:Rat} (hy:∀n,0≤y n) (h1:(lo:Rat)≤1048576*v) (h2:1048576*v≤hi) (hq:(realM lo hi).q=0)
  (hv:(0≤v∧Btw lo hi fun n=>y n*y n)∨(v<0∧Btw (-hi) (-lo) fun n=>y n*y n)) (hz:v=0→∀n,y n=0):In (realM lo hi) fun n=>if 0≤v then⟨y n,0⟩else⟨0,y n⟩:=by
 have hle:lo≤hi:=by
  have:=Rat.le_trans h1 h2
  exact Rat.intCast_le_intCast.1 this
 have good:∀lo hi:Int,0≤lo→lo≤hi→hi≤67108864→Btw lo hi (fun n=>y n*y n)→Right (rrM lo hi) 0 (rrR lo hi)∧∀d:Rat,0<d→Ev fun n=>Cq.Near ((⟨y n,0⟩:Cq).scale 1048576) ⟨rrM lo hi,(0:Int)⟩ (rrR lo hi+d):=fun lo hi h0 h1 h2 hb=>by
  have t:=root_btw h0 h1 h2 hy hb
  have n1:=rt_nonneg (lo*1048576)
  have n3:=rtu_bounds (n:=hi*1048576)
  have t2:rt (hi*1048576)≤8388608:=rt_le (by omega) (by omega) (by omega) (by omega)
  have le:rt (lo*1048576)≤rt (hi*1048576):=rt_ge (by omega) (by omega) n1 (by have:=rt_spec (n:=lo*1048576) (by omega) (by omega);omega)
  unfold rrM rrR
  generalize rt (lo*1048576)=L at *
  generalize rtu (hi*1048576)=U at *
  generalize rt (hi*1048576)=U' at *
  refine⟨by unfold Right Fits;omega,fun d hd=>(t d hd).mono fun n ⟨p,q⟩ => ?_⟩
  have m1:=Rat.intCast_le_intCast.2 (show 2*((L+U)/2)≤L+U by omega)
  have m2:=Rat.intCast_le_intCast.2 (show(L+U)/2≤U by omega)
  push_cast at m1 m2 ⊢
  generalize (((L+U)/2:Int):Rat)=m at *
  refine⟨by grind,?_⟩
  unfold Cq.nrm
  simp only[Cq.sub_re,Cq.sub_im,Cq.scale_re,Cq.scale_im]
  have:=near_real (x:=1048576*y n) (m:=m) (r:=U-m+d) (by grind) (by grind) (by grind)
  grind
 unfold realM at hq ⊢
 by_cases c : -67108864≤lo∧lo≤67108864 ∧ -67108864≤hi∧hi≤67108864
 ·rw[if_neg (by simpa using c)]at hq ⊢
  rw[if_neg (by omega)]at hq ⊢
  by_cases c2:0≤lo
  ·rw[if_pos c2]
   have v0:0≤v:=by have:=Rat.intCast_le_intCast.2 c2;push_cast at this;grind
   have hb:Btw lo hi fun n=>y n*y n:=by rcases hv with⟨_,k⟩|⟨k,_⟩;exact k;grind
   obtain⟨g1,g2⟩:=good lo hi c2 hle c.2.2.2 hb
   obtain⟨e1,e2,e3,e4⟩:=quad_good (rrM lo hi) 0 (rrR lo hi)
   refine⟨g1,e4,fun d hd => ?_⟩
   rw[e1,e2,e3]
   simp only[v0,if_true]
   exact g2 d hd
  ·rw[if_neg c2]at hq ⊢
   by_cases c3:hi≤0
   ·rw[if_pos c3]at hq ⊢
    obtain⟨e1,e2,e3,e4⟩:=quad_good 0 (rrM (-hi) (-lo)) (rrR (-hi) (-lo))
    have c3':=Rat.intCast_le_intCast.2 c3
    push_cast at c3'
    by_cases v0:0≤v
    ·have vz:v=0:=by grind
     have hi0:hi=0:=by
      have h2':((0:Int):Rat)≤hi:=by push_cast;grind
      have:=Rat.intCast_le_intCast.1 h2'
      omega
     have hb:Btw (-hi) (-lo) fun n=>y n*y n:=Btw.of fun n=>by
      rw[hz vz n,hi0]
      have:=Rat.intCast_le_intCast.2 (show 0 ≤ -lo by omega)
      push_cast at this ⊢
      grind
     obtain⟨g1,g2⟩:=good (-hi) (-lo) (by omega) (by omega) (by omega) hb
     refine⟨by unfold Right Fits at g1;unfold Fine Right Fits;omega,e4,fun d hd=>(g2 d hd).mono fun n p => ?_⟩
     rw[e1,e2,e3]
     simp only[v0,if_true]
     rw[hz vz n]at p ⊢
     refine⟨p.1,?_⟩
     have:=p.2
     unfold Cq.nrm at this ⊢
     simp only[Cq.sub_re,Cq.sub_im,Cq.scale_re,Cq.scale_im]at this ⊢
     grind
    ·have hb:Btw (-hi) (-lo) fun n=>y n*y n:=by rcases hv with⟨k,_⟩|⟨_,k⟩;exact absurd k v0;exact k
     obtain⟨g1,g2⟩:=good (-hi) (-lo) (by omega) (by omega) (by omega) hb
     refine⟨by unfold Right Fits at g1;unfold Fine Right Fits;omega,e4,fun d hd=>(g2 d hd).mono fun n p => ?_⟩
     rw[e1,e2,e3]
     simp only[v0,if_false]
     refine⟨p.1,?_⟩
     have:=p.2
     unfold Cq.nrm at this ⊢
     simp only[Cq.sub_re,Cq.sub_im,Cq.scale_re,Cq.scale_im]at this ⊢
     grind
   ·rw[if_neg c3,(quad_bad 14).2.2.2]at hq;exact absurd hq (by decide)
 ·rw[if_pos c,(quad_bad 2).2.2.2]at hq;exact absurd hq (by decide)
end Go.Proofs.YticobgianbecpaaGreatDoor
namespace Go.Proofs.YticobgianbecpaaGreatDoor
theorem root_of {a b:Rat} (ha:0≤a) (h1:1≤a*a+b*b){e:Rat} (he:0<e) (e1:e≤1) :
  ∃s t:Rat,0<s∧2*s*t=b∧a≤s*s-t*t∧s*s-t*t≤a+e:=by
 obtain⟨μ,μ0,μ1,μ2⟩:=sqrt_up (a*a+b*b) (by grind) e he
 have m1:1≤μ:=rle_of_sq (by grind) (by grind)
 obtain⟨s,s0,s1,s2⟩:=sqrt_up ((μ+a)/2) (by grind) (e/8) (by grind)
 have sp:0<s:=by
  by_cases c:s=0
  ·subst c;grind
  ·grind
 have st:=rdiv_mul b (2*s) (by grind)
 generalize b/(2*s)=t at *
 refine⟨s,t,sp,by grind,?_,?_⟩
 ·
  have k:0≤(s*s-(μ+a)/2)*(4*(s*s)+2*(μ-a)):=by
   refine Rat.mul_nonneg (by grind) ?_
   have:a≤μ:=rle_of_sq (by grind) (by have:=rsq b;grind)
   grind
  refine rle_of_mul (show 0<4*(s*s)by have:=Rat.mul_pos sp sp;grind) ?_
  have e2:(s*s-t*t)*(4*(s*s))=4*(s*s)*(s*s)-b*b:=by rw[← st];grind
  rw[e2]
  grind
 ·refine rle_of_mul (show 0<4*(s*s)by have:=Rat.mul_pos sp sp;grind) ?_
  have e2:(s*s-t*t)*(4*(s*s))=4*(s*s)*(s*s)-b*b:=by rw[← st];grind
  rw[e2]
  have aμ:a≤μ:=rle_of_sq (by grind) (by have:=rsq b;grind)
  obtain⟨x,hx⟩:∃x,s*s=(μ+a)/2+x:=⟨s*s-(μ+a)/2,by grind⟩
  have x0:0≤x:=by grind
  have x1:x≤e/8:=by grind
  rw[hx]
  clear s2 s1 hx st e2 sp s0
  have k1:=Rat.mul_le_mul_of_nonneg_left x1 (show 0≤μ by grind)
  have k2:=Rat.mul_le_mul_of_nonneg_left x1 x0
  have k3:=Rat.mul_le_mul_of_nonneg_left x1 ha
  have k4:=Rat.mul_le_mul_of_nonneg_left m1 (show 0≤e by grind)
  have k5:=Rat.mul_nonneg ha (show 0≤e by grind)
  have k6:=Rat.mul_le_mul_of_nonneg_left e1 x0
  have k7:=Rat.mul_nonneg x0 (show 0≤e by grind)
  grind
theorem root_side {p q s t x y a b r e:Rat} (hp:0≤p) (hq:0≤q) (hs:0<s) (ha:0≤a) (_e0:0≤e) (e1:e≤1)
  (zx:p*p-q*q=1048576*x) (zy:2*p*q=1048576*y) (sx1:1048576*a≤s*s-t*t) (sx2:s*s-t*t≤1048576*a+e) (sy:2*s*t=1048576*b)
  (hx:(x-a)*(x-a)+(y-b)*(y-b)≤(r+1/2)*(r+1/2)) (r0:0≤r) (hm:(r+1)*(r+1)≤a*a+b*b):0≤p*s+q*t:=by
 rcases Rat.le_total (a:=0) (b:=p*s+q*t)with c|c
 ·exact c
 ·exfalso
  have k1:(p*s+q*t)*(p*s+q*t)-(q*s-p*t)*(q*s-p*t)=(p*p-q*q)*(s*s-t*t)+(2*p*q)*(2*s*t):=by grind
  obtain⟨f,hf⟩:∃f,s*s-t*t=1048576*a+f:=⟨s*s-t*t-1048576*a,by grind⟩
  rw[hf,zx,zy,sy]at k1
  have f0:0≤f:=by grind
  have f1:f≤1:=by grind
  have k2:0<1048576*x*(1048576*a+f)+1048576*y*(1048576*b):=by
   have n1:=rsq (x+f)
   have n2:=rsq y
   have n3:=rsq x
   have n4:=rmul_le f0 f1 f0 f1
   grind
  rw[← k1]at k2
  have ts:t*t≤s*s:=by grind
  have t0:t≤0:=by
   rcases Rat.le_total (a:=t) (b:=0)with h|h
   ·exact h
   ·have:=Rat.mul_nonneg hp (show 0≤s by grind)
    have:=Rat.mul_nonneg hq h
    have z:p*s+q*t=0:=by grind
    rw[z]at k2
    have:=rsq (q*s-p*t)
    grind
  have t1 : -t≤s:=rle_of_sq (by grind) (by grind)
  have m1:=Rat.mul_nonneg hq (show 0≤s+t by grind)
  have m2:=Rat.mul_nonneg hp (show 0≤s-t by grind)
  have m3 : -(p*s+q*t)≤q*s-p*t:=by grind
  have:=rsq_mono (a := -(p*s+q*t)) (by grind) m3
  grind
theorem root_round {a b m w o s t e:Rat} (ha:0≤a) (hs:0<s) (_e0:0≤e) (e1:e≤1/100) (sx1:1048576*a≤s*s-t*t) (sx2:s*s-t*t≤1048576*a+e) (sy:2*s*t=1048576*b)
  (m0:1≤m) (m1:m*m≤a*a+b*b) (m2:a*a+b*b≤(m+1)*(m+1)) (w0:724≤w) (w1:w*w≤(m+a)*524288) (w2:(m+a)*524288≤(w+1)*(w+1))
  (o1 : -(1/2)≤o-1048576*b/(2*w)) (o2:o-1048576*b/(2*w)≤1/2):∀v:Rat,1048576≤w*v→(s-w)*(s-w)+(t-o)*(t-o)≤(3+v)*(3+v):=by
 intro v hv
 have len:(s*s+t*t)*(s*s+t*t)=(s*s-t*t)*(s*s-t*t)+(2*s*t)*(2*s*t):=by grind
 obtain⟨f,hf⟩:∃f,s*s-t*t=1048576*a+f:=⟨s*s-t*t-1048576*a,by grind⟩
 have f0:0≤f:=by grind
 have f1:f≤1/100:=by grind
 rw[hf,sy]at len
 have s2:0≤s*s+t*t:=by have:=rsq s;have:=rsq t;grind
 have fa:=Rat.mul_nonneg f0 ha
 have l1:1048576*m≤s*s+t*t:=by
  refine rle_of_sq s2 ?_
  rw[len]
  have:=rsq f
  grind
 have l2:s*s+t*t≤1048576*(m+1)+f:=by
  refine rle_of_sq (by grind) ?_
  rw[len]
  have am:a≤m+1:=rle_of_sq (by grind) (by have:=rsq b;grind)
  have:=Rat.mul_le_mul_of_nonneg_left am f0
  grind
 have h1:w*w≤s*s:=by grind
 have h2:s*s≤(w+1)*(w+1)+524288+f:=by grind
 have ws:w≤s:=rle_of_sq (by grind) h1
 clear len l1 l2 s2 m1 m2 w1 w2 fa sx1 sx2
 obtain⟨A,hA⟩:∃A,s=w+A:=⟨s-w,by grind⟩
 have A0:0≤A:=by grind
 have w00:0<w:=by grind
 have hA2:A*(2*w)≤2*w+1+524288+f:=by
  rw[hA]at h2
  have:=rsq A
  grind
 have A1:A≤1001/1000+v/4:=by
  refine rle_of_mul (show 0<2*w by grind) ?_
  grind
 have v0:0≤v:=by
  rcases Rat.le_total (a:=0) (b:=v)with c|c
  ·exact c
  ·have:=Rat.mul_le_mul_of_nonneg_left c (show 0≤w by grind);grind
 have A2:A≤w*(503/1000):=by
  refine rle_of_mul (show 0<2*w by grind) ?_
  have:=rsq_mono (a:=724) (by decide) w0
  have:=Rat.mul_le_mul_of_nonneg_left w0 (show 0≤w by grind)
  grind
 have ts:t*t≤s*s:=by have:=Rat.mul_nonneg (show(0:Rat)≤1048576 by decide) ha;grind
 have tb : -s≤t∧t≤s:=rabs_of_sq (by grind) ts
 have hd:=rdiv_mul (1048576*b) (2*w) (by grind)
 generalize 1048576*b/(2*w)=g at *
 have hg:(g-t)*w=t*A:=by
  have:2*(g*w)=2*s*t:=by rw[sy];grind
  rw[hA]at this
  grind
 have g1:(g-t)*(g-t)*(w*w)≤(1503/1000*A)*(1503/1000*A)*(w*w):=by
  have e1:(g-t)*(g-t)*(w*w)=(t*A)*(t*A):=by rw[← hg];grind
  rw[e1]
  have k1:t*t≤(1503/1000*w)*(1503/1000*w):=Rat.le_trans ts (rsq_mono (by grind) (by grind))
  have:=Rat.mul_le_mul_of_nonneg_right k1 (rsq A)
  grind
 have g2:=rle_of_mul (Rat.mul_pos w00 w00) g1
 have g3 : -(1503/1000*A)≤g-t∧g-t≤1503/1000*A:=rabs_of_sq (by grind) g2
 have to:(t-o)*(t-o)≤(1503/1000*A+1/2)*(1503/1000*A+1/2):=near_real (by grind) (by grind) (by grind)
 have AA:=rsq_mono A0 A1
 have vv:=rsq v
 have e3:(s-w)*(s-w)=A*A:=by rw[hA];grind
 rw[e3]
 grind
end Go.Proofs.YticobgianbecpaaGreatDoor
namespace Go.Proofs.YticobgianbecpaaGreatDoor
theorem root_point {p q x y a b r m w o ν V v d d':Rat} (hp:0≤p) (hq:0≤q) (ha:0≤a)
  (zx:p*p-q*q=1048576*x) (zy:2*p*q=1048576*y) (hx:(x-a)*(x-a)+(y-b)*(y-b)≤(r+d')*(r+d')) (r0:0≤r) (d0:0<d') (d1:d=d'*2097152) (d2:d≤1)
  (m0:r+1≤m) (m1:m*m≤a*a+b*b) (m2:a*a+b*b≤(m+1)*(m+1)) (w0:724≤w) (w1:w*w≤(m+a)*524288) (w2:(m+a)*524288≤(w+1)*(w+1))
  (o1 : -(1/2)≤o-1048576*b/(2*w)) (o2:o-1048576*b/(2*w)≤1/2) (n0:1≤ν) (n1:ν*ν≤m*1048576) (hV:r*1048576≤ν*V) (hv:1048576≤w*v) :
  Cq.Near ⟨p,q⟩ ⟨w,o⟩ (V+3+v+d):=by
 have hm1:=rsq_mono (a:=r+1) (by grind) m0
 have b1:1≤a*a+b*b:=by have:=rsq_mono (a:=1) (by decide) (show 1≤r+1 by grind);grind
 have big:1≤1048576*a*(1048576*a)+1048576*b*(1048576*b):=by grind
 obtain⟨s,t,s0,st,sx1,sx2⟩:=root_of (a:=1048576*a) (b:=1048576*b) (by grind) big (e:=d/1024) (by grind) (by grind)
 have side:=root_side (e:=d/1024) hp hq s0 ha (by grind) (by grind) zx zy sx1 sx2 st (Rat.le_trans hx (rsq_mono (by grind) (by grind))) r0 (by grind)
 have rnd:=root_round ha s0 (by grind) (by grind) sx1 sx2 st (by grind) m1 m2 w0 w1 w2 o1 o2 v hv
 have v0:0≤v:=by
  rcases Rat.le_total (a:=0) (b:=v)with c|c
  ·exact c
  ·have:=Rat.mul_le_mul_of_nonneg_left c (show 0≤w by grind);grind
 have V0:0≤V:=by
  rcases Rat.le_total (a:=0) (b:=V)with c|c
  ·exact c
  ·have:=Rat.mul_le_mul_of_nonneg_left c (show 0≤ν by grind)
   by_cases k:V=0
   ·rw[k];exact Rat.le_refl
   ·have:0 < -V:=by grind
    have:=Rat.mul_pos this (show 0<ν by grind)
    grind
 have near2:Cq.Near ⟨s,t⟩ ⟨w,o⟩ (3+v):=⟨by grind,by unfold Cq.nrm;exact rnd⟩
 have near1:Cq.Near ⟨p,q⟩ ⟨s,t⟩ (V+d):=by
  refine⟨by grind,?_⟩
  unfold Cq.nrm
  simp only[Cq.sub_re,Cq.sub_im]
  clear rnd near2 o1 o2 w1 w2 w0 hv
  have len:(s*s+t*t)*(s*s+t*t)=(s*s-t*t)*(s*s-t*t)+(2*s*t)*(2*s*t):=by grind
  obtain⟨f,hf⟩:∃f,s*s-t*t=1048576*a+f:=⟨s*s-t*t-1048576*a,by grind⟩
  have f0:0≤f:=by grind
  have f1:f≤d/1024:=by grind
  have zs:(p-s)*(p-s)+(q-t)*(q-t)=(p-s)*(p-s)+(q-t)*(q-t):=rfl
  rw[hf,st]at len
  have s2:0≤s*s+t*t:=by have:=rsq s;have:=rsq t;grind
  have l1:1048576*m≤s*s+t*t:=by
   refine rle_of_sq s2 ?_
   rw[len]
   have:=rsq f
   have:=Rat.mul_nonneg f0 ha
   grind
  have l2:ν*ν≤(p+s)*(p+s)+(q+t)*(q+t):=by
   have:=rsq p
   have:=rsq q
   grind
  have prod:((p-s)*(p-s)+(q-t)*(q-t))*((p+s)*(p+s)+(q+t)*(q+t))=(1048576*(x-a)-f)*(1048576*(x-a)-f)+1048576*(y-b)*(1048576*(y-b)):=by
   have e1:(p-s)*(p+s)-(q-t)*(q+t)=1048576*(x-a)-f:=by grind
   have e2:(p-s)*(q+t)+(q-t)*(p+s)=1048576*(y-b):=by grind
   rw[← e1,← e2]
   grind
  have tri:(1048576*(x-a)-f)*(1048576*(x-a)-f)+1048576*(y-b)*(1048576*(y-b))≤(1048576*(r+d')+f)*(1048576*(r+d')+f):=by
   have xa : -(r+d')≤x-a:=(rabs_of_sq (by grind) (show(x-a)*(x-a)≤(r+d')*(r+d')by have:=rsq (y-b);grind)).1
   have:=Rat.mul_le_mul_of_nonneg_left xa f0
   grind
  have up:1048576*(r+d')+f≤(V+d)*ν:=by
   have:=Rat.mul_le_mul_of_nonneg_left n0 (show 0≤d by grind)
   grind
  have up2:=rsq_mono (a:=1048576*(r+d')+f) (by grind) up
  have nn:0≤(p-s)*(p-s)+(q-t)*(q-t):=by have:=rsq (p-s);have:=rsq (q-t);grind
  have low:=Rat.mul_le_mul_of_nonneg_left l2 nn
  refine rle_of_mul (Rat.mul_pos (show 0<ν by grind) (show 0<ν by grind)) ?_
  have e3:(V+d)*ν*((V+d)*ν)=(V+d)*(V+d)*(ν*ν):=by grind
  rw[← e3]
  exact Rat.le_trans low (by rw[prod];exact Rat.le_trans tri up2)
 exact(near1.trans near2).cast rfl rfl (by grind)
theorem neg_neg_sq (x y:Rat):(-x - -y)*(-x - -y)=(x-y)*(x-y):=by grind
theorem rint (x y:Int) (h:x≤y):(x:Rat)≤(y:Rat):=Rat.intCast_le_intCast.2 h
theorem in_ro {R:Res}{y:Nat→Cq} (hy:∀n,0≤(y n).re∧0≤(y n).im) (h:In R fun n=>y n*y n) (hq:(ro R).q=0):In (ro R) y:=by
 refine In.small (fine_ro _) hq fun d hd d1 => ?_
 have e:ro R=rootR R.a R.b R.c:=by unfold ro rootM;exact one_val h.1.right _
 rw[e]at hq ⊢
 have fR:=h.1.right
 have near:=h.2.2
 clear h e
 generalize R.a=a at *
 generalize R.b=b at *
 generalize R.c=r at *
 unfold rootR at hq ⊢
 by_cases c1:rt (a*a+b*b)≤r
 ·rw[if_pos c1,(quad_bad 9).2.2.2]at hq;exact absurd hq (by decide)
 rw[if_neg c1]at hq ⊢
 by_cases c2:a<0∧(-r≤b∧b≤r)∧r≠0
 ·rw[if_pos c2,(quad_bad 14).2.2.2]at hq;exact absurd hq (by decide)
 rw[if_neg c2]at hq ⊢
 obtain⟨e1,e2,e3,hr⟩:=fin_val hq
 rw[e1,e2,e3]
 clear e1 e2 e3 hq
 obtain⟨⟨h1,h2,h3,h4⟩,r0,r1⟩:=fR
 have sq:∀x:Int, -67108864≤x→x≤67108864→0≤x*x∧x*x≤4503599627370496:=fun x h1 h2=>by
  have a:=Int.mul_nonneg (show 0≤67108864-x by omega) (show 0≤67108864+x by omega)
  have e:(67108864-x)*(67108864+x)=4503599627370496-x*x:=by grind
  have n:0≤x*x:=(Int.le_total 0 x).elim (fun c=>Int.mul_nonneg c c) (fun c=>Int.mul_nonneg_of_nonpos_of_nonpos c c)
  omega
 have qa:=sq a h1 h2
 have qb:=sq b h3 h4
 have ms:=rt_spec (n:=a*a+b*b) (by omega) (by omega)
 have ml:=rt_le (n:=a*a+b*b) (b:=1073741824) (by omega) (by omega) (by omega) (by omega)
 have m1:1≤rt (a*a+b*b):=by omega
 unfold roX roY roR at *
 unfold roW at *
 generalize rt (a*a+b*b)=m at *
 have ws:=rt_spec (n:=(m+(a.natAbs:Int))*524288) (by omega) (by omega)
 have w7:724≤rt ((m+(a.natAbs:Int))*524288):=rt_ge (by omega) (by omega) (by omega) (by omega)
 have ns:=rt_spec (n:=m*1048576) (by omega) (by omega)
 have n1:1≤rt (m*1048576):=rt_ge (by omega) (by omega) (by omega) (by omega)
 generalize rt ((m+(a.natAbs:Int))*524288)=w at *
 generalize rt (m*1048576)=ν at *
 have eW:(((2*w).toNat:Nat):Int)=2*w:=Int.toNat_of_nonneg (by omega)
 have uV:=ceil_ge (r*1048576) ν (by omega)
 have uv:=ceil_ge 1048576 w (by omega)
 generalize -(-(r*1048576)/ν)=V at *
 generalize hvv : -(-1048576/w)=v at *
 have i1:=rint _ _ (show r+1≤m by omega)
 have i2:=rint _ _ ms.1
 have i3:=rint _ _ (show a*a+b*b≤(m+1)*(m+1)by omega)
 have i4:=rint _ _ w7
 have i5:=rint _ _ ws.1
 have i6:=rint _ _ (show(m+(a.natAbs:Int))*524288≤(w+1)*(w+1)by omega)
 have i7:=rint _ _ n1
 have i8:=rint _ _ ns.1
 have i9:=rint _ _ r0
 push_cast at i1 i2 i3 i4 i5 i6 i7 i8 i9 uV uv
 by_cases ca:0≤a
 ·rw[if_pos ca,if_pos ca]at hr ⊢
  have ea:((a.natAbs:Nat):Rat)=a:=by rw[← Rat.intCast_natCast,Int.natAbs_of_nonneg ca]
  have j:=rint _ _ ca
  push_cast at j
  obtain⟨g1,_⟩:=qv_is (n:=b) (N:=(2*w).toNat) ⟨hr.1.2.2.1,hr.1.2.2.2⟩
  obtain⟨o1,o2,_⟩:=srq_half b (2*w) (by omega)
  rw[g1,eW]
  rw[ea]at i5 i6
  clear hr g1 hvv eW qa qb ms ml ws ns c1 c2 ea sq
  refine(near (d/2097152) (by grind)).mono fun n p => ?_
  have pn:=p.2
  unfold Cq.nrm at pn
  simp only[Cq.sub_re,Cq.sub_im,Cq.scale_re,Cq.scale_im,Cq.mul_re,Cq.mul_im]at pn
  obtain⟨y1,y2⟩:=hy n
  have t:=root_point (p:=1048576*(y n).re) (q:=1048576*(y n).im) (x:=1048576*((y n).re*(y n).re-(y n).im*(y n).im)) (y:=1048576*((y n).re*(y n).im+(y n).im*(y n).re)) (d:=d) (d':=d/2097152) (V:=V) (v:=v) (by grind) (by grind) j (by grind) (by grind) pn i9 (by grind) (by grind) d1 i1 i2 i3 i4 i5 i6 (by push_cast at o1;exact o1) (by push_cast at o2;exact o2) i7 i8 uV uv
  exact t.cast (by apply Cq.ext'<;>simp) rfl (by push_cast;grind)
 ·rw[if_neg ca,if_neg ca]at hr ⊢
  have hb:0≤b:=by
   rcases Int.lt_or_le b 0 with k|k
   ·exfalso
    obtain⟨n,p⟩:=(near (1/2) (by decide +kernel)).ex
    have pn:=p.2
    unfold Cq.nrm at pn
    simp only[Cq.sub_re,Cq.sub_im,Cq.scale_re,Cq.scale_im,Cq.mul_re,Cq.mul_im]at pn
    obtain⟨y1,y2⟩:=hy n
    have y3:=Rat.mul_nonneg y1 y2
    have:=rsq (1048576*((y n).re*(y n).re-(y n).im*(y n).im)-a)
    have t:=(rabs_of_sq p.1 (show(1048576*((y n).re*(y n).im+(y n).im*(y n).re)-b)*(1048576*((y n).re*(y n).im+(y n).im*(y n).re)-b)≤(r+1/2)*(r+1/2)by grind)).2
    have lt:((-b:Int):Rat)<((r+1:Int):Rat):=by push_cast;grind
    have:=Rat.intCast_lt_intCast.1 lt
    exact c2 ⟨by omega,by omega,by omega⟩
   ·exact k
  rw[if_pos hb]at hr ⊢
  have ea:((a.natAbs:Nat):Rat) = -a:=by rw[← Rat.intCast_natCast,Int.ofNat_natAbs_of_nonpos (by omega)];push_cast;rfl
  have eb:(b.natAbs:Int)=b:=Int.natAbs_of_nonneg hb
  have j:=rint _ _ (show 0 ≤ -a by omega)
  push_cast at j
  obtain⟨g1,_⟩:=qv_is (n:=(b.natAbs:Int)) (N:=(2*w).toNat) ⟨hr.1.1,hr.1.2.1⟩
  obtain⟨o1,o2,_⟩:=srq_half b (2*w) (by omega)
  rw[g1,eW,eb]
  rw[ea]at i5 i6
  clear hr g1 hvv eW qa qb ms ml ws ns c1 c2 ea sq eb
  refine(near (d/2097152) (by grind)).mono fun n p => ?_
  have pn:=p.2
  unfold Cq.nrm at pn
  simp only[Cq.sub_re,Cq.sub_im,Cq.scale_re,Cq.scale_im,Cq.mul_re,Cq.mul_im]at pn
  obtain⟨y1,y2⟩:=hy n
  have t:=root_point (p:=1048576*(y n).im) (q:=1048576*(y n).re) (x := -(1048576*((y n).re*(y n).re-(y n).im*(y n).im))) (y:=1048576*((y n).re*(y n).im+(y n).im*(y n).re)) (a := -a) (d:=d) (d':=d/2097152) (V:=V) (v:=v) (by grind) (by grind) j (by grind) (by grind) (by rw[neg_neg_sq];exact pn) i9 (by grind) (by grind) d1 i1 (by grind) (by grind) i4 i5 i6 (by push_cast at o1;exact o1) (by push_cast at o2;exact o2) i7 i8 uV uv
  refine⟨by have:=t.1;push_cast;grind,?_⟩
  have t2:=t.2
  unfold Cq.nrm at t2 ⊢
  simp only[Cq.sub_re,Cq.sub_im,Cq.scale_re,Cq.scale_im]at t2 ⊢
  push_cast
  grind
end Go.Proofs.YticobgianbecpaaGreatDoor
namespace Go.Proofs.YticobgianbecpaaGreatDoor
theorem near_e1:Cq.Near Cq.one (E 1) (14981/10000000000):=by rw[E_one];exact⟨by decide +kernel,by decide +kernel⟩
theorem e_len (n:Nat):(E n).nrm≤1*1:=by rw[E_nrm];decide +kernel
theorem near_ek:∀k:Nat,Cq.Near Cq.one (E k) (14981/10000000000*k)
 | 0=>by rw[E_zero];exact(Cq.Near.rfl _).le (by simp)
 | k+1=>by
  have t:=near_e1.mul_left (E k) 1 (by decide) (e_len k)
  rw[Cq.mul_one,← E_add]at t
  exact((near_ek k).trans t).le (by push_cast;grind)
theorem near_eadd (a k:Nat):Cq.Near (E a) (E (a+k)) (14981/10000000000*k):=by
 have t:=(near_ek k).mul_left (E a) 1 (by decide) (e_len a)
 rw[Cq.mul_one,← E_add]at t
 exact t.le (by grind)
theorem near_part {l m:Int} (h:l≤m) (h2:m-l<4194304):Cq.Near (E (plc l)) (E (plc m)) (14981/10000000000*((m-l:Int):Rat)+1/50000000000):=by
 obtain⟨j,hj⟩:=plc_eq l
 obtain⟨k,hk⟩:=plc_eq m
 have b1:=plc_lt l
 have b2:=plc_lt m
 obtain⟨n,hn⟩:∃n:Nat,(n:Int)=m-l:=⟨(m-l).toNat,by omega⟩
 have c:plc l+n=plc m∨plc l+n=plc m+4194304:=by omega
 have t:=near_eadd (plc l) n
 have hc:(n:Rat)=((m-l:Int):Rat):=by rw[← hn];rfl
 rw[hc]at t
 rcases c with c|c
 ·rw[c]at t;exact t.le (by grind)
 ·have w:=near_w.mul_left (E (plc m)) 1 (by decide) (e_len _)
  rw[Cq.mul_one,← E_add]at w
  rw[c]at t
  exact(t.trans w.symm).le (by grind)
def Dir (l:Int) (u:Nat→Cq):Prop:=(∀n,Cq.Near (u n) (E (plc l)) (1/1000000000))∧(l%1048576=0→∀d:Rat,0<d→Ev fun n=>Cq.Near ((u n).scale 1048576) ⟨ctX l,ctY l⟩ d)
theorem in_arc {lo hi l:Int}{u:Nat→Cq} (h:Dir l u) (h1:lo≤l) (h2:l≤hi) (h3:hi-lo<4194304) (hq:(arcM lo hi).q=0):In (arcM lo hi) u:=by
 have e:arcM lo hi=fin (ctX ((lo+hi)/2)) (ctY ((lo+hi)/2)) (arR lo hi) 0:=by
  unfold arcM at hq ⊢
  split
  ·rename_i c
   rw[if_pos c]at hq
   rw[if_pos (by omega)]
   unfold arM;rfl
  ·rename_i c
   rw[if_neg c,(quad_bad 2).2.2.2]at hq;exact absurd hq (by decide)
 rw[e]at hq ⊢
 obtain⟨e1,e2,e3,hr⟩:=fin_val hq
 refine⟨?_,hq,fun d hd => ?_⟩
 ·unfold fin
  rw[if_neg (by decide),if_pos hr];exact hr
 rw[e1,e2,e3]
 clear e1 e2 e3 hq hr e
 unfold arR
 by_cases c:lo=hi∧lo%1048576=0
 ·rw[if_pos c]
  have e:(lo+hi)/2=l:=by omega
  rw[e]
  have hl:lo=l:=by omega
  exact(h.2 (by rw[← hl];exact c.2) d hd).mono fun n p=>p.le (by push_cast;grind)
 ·rw[if_neg c]
  refine Ev.of fun n => ?_
  have p:=(h.1 n).scale 1048576 (by decide)
  have q:=ct_near ((lo+hi)/2)
  have hm:lo≤(lo+hi)/2∧(lo+hi)/2≤hi∧(lo+hi)/2-lo≤hi-(lo+hi)/2:=by omega
  have up:=ceil_ge (11*(hi-(lo+hi)/2)) 7 (by decide)
  generalize (lo+hi)/2=m at *
  generalize -(-(11*(hi-m))/7)=v at *
  rcases Int.le_total l m with k|k
  ·have t:=(near_part k (by omega)).scale 1048576 (by decide)
   have z:=rint _ _ (show m-l≤hi-m by omega)
   have z0:=rint _ _ (show 0≤m-l by omega)
   exact(p.trans (t.trans q.symm)).cast rfl rfl (by push_cast at *;grind)
  ·have t:=(near_part k (by omega)).scale 1048576 (by decide)
   have z:=rint _ _ (show l-m≤hi-m by omega)
   have z0:=rint _ _ (show 0≤l-m by omega)
   exact(p.trans (t.symm.trans q.symm)).cast rfl rfl (by push_cast at *;grind)
theorem in_circle {u:Nat→Cq} (h:∀n,(u n).nrm=1):In (.good 0 0 1048576) u:=by
 obtain⟨e1,e2,e3,e4⟩:=quad_good 0 0 1048576
 refine⟨by unfold Fine Right Fits;omega,e4,fun d hd=>Ev.of fun n => ?_⟩
 rw[e1,e2,e3]
 refine⟨by push_cast;grind,?_⟩
 have:=h n
 have m:=rsq_mono (a:=1048576) (b:=1048576+d) (by decide) (by grind)
 unfold Cq.nrm at this ⊢
 simp only[Cq.sub_re,Cq.sub_im,Cq.scale_re,Cq.scale_im]
 push_cast
 grind
theorem cq_eq {a b:Cq} (h:(decide (a.re=b.re)&&decide (a.im=b.im))=true):a=b:=by
 simp at h
 exact Cq.ext' h.1 h.2
def ip (k:Int):Cq:=if k%4=0 then Cq.one else if k%4=1 then Cq.i else if k%4=2 then -Cq.one else -Cq.i
theorem ip_cases (k:Int):(k%4=0∧ip k=Cq.one)∨(k%4=1∧ip k=Cq.i)∨(k%4=2∧ip k = -Cq.one)∨(k%4=3∧ip k = -Cq.i):=by
 unfold ip
 have:k%4=0∨k%4=1∨k%4=2∨k%4=3:=by omega
 rcases this with h|h|h|h
 ·exact .inl ⟨h,by rw[if_pos h]⟩
 ·exact .inr (.inl ⟨h,by rw[if_neg (by omega),if_pos h]⟩)
 ·exact .inr (.inr (.inl ⟨h,by rw[if_neg (by omega),if_neg (by omega),if_pos h]⟩))
 ·exact .inr (.inr (.inr ⟨h,by rw[if_neg (by omega),if_neg (by omega),if_neg (by omega)]⟩))
theorem ip_nrm (k:Int):(ip k).nrm=1:=by rcases ip_cases k with⟨_,h⟩|⟨_,h⟩|⟨_,h⟩|⟨_,h⟩<;>rw[h]<;>decide +kernel
theorem ip_add (j k:Int):ip (j+k)=ip j*ip k:=by
 rcases ip_cases j with⟨a,h⟩|⟨a,h⟩|⟨a,h⟩|⟨a,h⟩<;>rcases ip_cases k with⟨b,g⟩|⟨b,g⟩|⟨b,g⟩|⟨b,g⟩<;>rcases ip_cases (j+k)with⟨c,f⟩|⟨c,f⟩|⟨c,f⟩|⟨c,f⟩<;>first|omega|(rw[h,g,f];exact cq_eq (by decide +kernel))
theorem near_q1:Cq.Near Cq.i (E 1048576) (1/100000000000):=((show Cq.Near Cq.i (zz (210953) (1152921504606516615)) (1/1000000000000)from⟨by decide +kernel,by decide +kernel⟩).trans nr20).le (by decide +kernel)
theorem near_q2:Cq.Near (-Cq.one) (E 2097152) (1/100000000000):=((show Cq.Near (-Cq.one) (zz (-1152921504606186254) (421906)) (1/1000000000000)from⟨by decide +kernel,by decide +kernel⟩).trans nr21).le (by decide +kernel)
theorem near_q3:Cq.Near (-Cq.i) (E 3145728) (3/100000000000):=by
 have t:=near_q2.mul near_q1 (A:=1) (B:=1) (by decide) (by decide +kernel) (by decide) (e_len _)
 rw[← E_add]at t
 exact t.cast (cq_eq (by decide +kernel)) rfl (by decide +kernel)
theorem near_ip (l:Int) (h:l%1048576=0):Cq.Near (ip (l/1048576)) (E (plc l)) (3/100000000000):=by
 have hp:(plc l:Int)=l%4194304:=by unfold plc;omega
 rcases ip_cases (l/1048576)with⟨a,e⟩|⟨a,e⟩|⟨a,e⟩|⟨a,e⟩<;>rw[e]
 ·rw[show plc l=0 by omega,E_zero];exact(Cq.Near.rfl _).le (by decide +kernel)
 ·rw[show plc l=1048576 by omega];exact near_q1.le (by decide +kernel)
 ·rw[show plc l=2097152 by omega];exact near_q2.le (by decide +kernel)
 ·rw[show plc l=3145728 by omega];exact near_q3
theorem int_zero {x:Int}{y:Rat} (h:(x:Rat)*x+y≤1/4) (hy:0≤y):x=0:=by
 have:((x*x:Int):Rat)<((1:Int):Rat):=by push_cast;grind
 have h2:=Rat.intCast_lt_intCast.1 this
 rcases Int.lt_trichotomy x 0 with c|c|c
 ·have:=Int.mul_le_mul (show 1 ≤ -x by omega) (show 1 ≤ -x by omega) (by decide) (by omega)
  rw[Int.neg_mul_neg]at this;omega
 ·exact c
 ·have:=Int.mul_le_mul (show 1≤x by omega) (show 1≤x by omega) (by decide) (by omega)
  omega
theorem ct_ip (l:Int) (h:l%1048576=0):(⟨ctX l,ctY l⟩:Cq)=(ip (l/1048576)).scale 1048576:=by
 have t:=((ct_quarter l h).trans ((near_ip l h).scale 1048576 (by decide)).symm).le (show(1:Rat)/1000+1048576*(3/100000000000)≤1/4 by decide +kernel)
 have key:∀u v:Int,Cq.Near ⟨ctX l,ctY l⟩ (⟨u,v⟩:Cq) (1/4)→(⟨ctX l,ctY l⟩:Cq)=⟨u,v⟩:=fun u v k=>by
  have k2:=k.2
  unfold Cq.nrm at k2
  simp only[Cq.sub_re,Cq.sub_im]at k2
  have a1:=int_zero (x:=ctX l-u) (y:=(ctY l-v)*(ctY l-v)) (by push_cast;grind) (rsq _)
  have a2:=int_zero (x:=ctY l-v) (y:=(ctX l-u)*(ctX l-u)) (by push_cast;grind) (rsq _)
  rw[show ctX l=u by omega,show ctY l=v by omega]
 rcases ip_cases (l/1048576)with⟨_,e⟩|⟨_,e⟩|⟨_,e⟩|⟨_,e⟩<;>rw[e]at t ⊢
 ·have:=key 1048576 0 (t.cast rfl (cq_eq (by decide +kernel)) Rat.le_refl)
  rw[this];exact cq_eq (by decide +kernel)
 ·have:=key 0 1048576 (t.cast rfl (cq_eq (by decide +kernel)) Rat.le_refl)
  rw[this];exact cq_eq (by decide +kernel)
 ·have:=key (-1048576) 0 (t.cast rfl (cq_eq (by decide +kernel)) Rat.le_refl)
  rw[this];exact cq_eq (by decide +kernel)
 ·have:=key 0 (-1048576) (t.cast rfl (cq_eq (by decide +kernel)) Rat.le_refl)
  rw[this];exact cq_eq (by decide +kernel)
theorem eta_ex (m:Nat):∃u:Cq,u.nrm=1∧Cq.Near (u*u) Cq.i (1/1000000000000*((1:Rat)/(m+1)))∧Cq.Near u (E 524288) (1/2000000000):=by
 have m0:(0:Rat)<(m:Rat)+1:=by have:=Rat.natCast_nonneg (a:=m);grind
 have i0:0<(1:Rat)/(m+1):=(Rat.lt_div_iff m0).2 (by grind)
 have i1:(1:Rat)/(m+1)≤1:=by refine rle_of_mul m0 ?_;rw[rdiv_mul _ _ (by grind)];have:=Rat.natCast_nonneg (a:=m);grind
 generalize (1:Rat)/(m+1)=δ at *
 obtain⟨s,s0,s1,s2⟩:=sqrt_dn 2 (by decide) (δ/10000000000000) (by grind)
 obtain⟨x,hx⟩:∃x,s*s=2-x:=⟨2-s*s,by grind⟩
 have x0:0≤x:=by grind
 have x1:x≤δ/10000000000000:=by grind
 have n1:(141421356237/100000000000:Rat)*(141421356237/100000000000)≤2-1/10000000000000:=by decide +kernel
 have n2:(2:Rat)≤(141421356238/100000000000:Rat)*(141421356238/100000000000):=by decide +kernel
 have b1:141421356237/100000000000≤s:=rle_of_sq s0 (by grind)
 have b2:s≤141421356238/100000000000:=rle_of_sq (by decide +kernel) (by grind)
 have D0:1≤4-2*s-x:=by grind
 have r1:=rdiv_mul (2*s-2+x) (4-2*s-x) (by grind)
 have r2:=rdiv_mul (2*s-2) (4-2*s-x) (by grind)
 generalize (2*s-2+x)/(4-2*s-x)=p at *
 generalize (2*s-2)/(4-2*s-x)=q at *
 have Dp:0<(4-2*s-x)*(4-2*s-x):=Rat.mul_pos (by grind) (by grind)
 have xs:s*s*x=(2-x)*x:=by rw[hx]
 have cancel:∀y:Rat,y*((4-2*s-x)*(4-2*s-x))=0→y=0:=fun y h=>by
  rcases Rat.mul_eq_zero.1 h with h|h
  ·exact h
  ·grind
 have l1:p*p+q*q=1:=by
  have:(p*p+q*q-1)*((4-2*s-x)*(4-2*s-x))=0:=by
   have e:(p*p+q*q-1)*((4-2*s-x)*(4-2*s-x))=(p*(4-2*s-x))*(p*(4-2*s-x))+(q*(4-2*s-x))*(q*(4-2*s-x))-(4-2*s-x)*(4-2*s-x):=by grind
   rw[e,r1,r2];grind
  have:=cancel _ this
  grind
 have l2:(p*p-q*q)*((4-2*s-x)*(4-2*s-x))=x*(4*s-4+x):=by
  have e:(p*p-q*q)*((4-2*s-x)*(4-2*s-x))=(p*(4-2*s-x))*(p*(4-2*s-x))-(q*(4-2*s-x))*(q*(4-2*s-x)):=by grind
  rw[e,r1,r2];grind
 have l3:(1-2*(p*q))*((4-2*s-x)*(4-2*s-x))=x*x:=by
  have e:(1-2*(p*q))*((4-2*s-x)*(4-2*s-x))=(4-2*s-x)*(4-2*s-x)-2*((p*(4-2*s-x))*(q*(4-2*s-x))):=by grind
  rw[e,r1,r2];grind
 have DD:1≤(4-2*s-x)*(4-2*s-x):=by have:=rsq_mono (a:=1) (by decide) D0;grind
 generalize hD:(4-2*s-x)*(4-2*s-x)=DD2 at *
 have bd:∀y z:Rat,y*DD2=z→0≤z→0≤y∧y≤z:=fun y z h h0=>by
  have y0:0≤y:=by refine rle_of_mul Dp ?_;grind
  have:=Rat.mul_le_mul_of_nonneg_left DD y0
  exact⟨y0,by grind⟩
 have xx:=Rat.mul_nonneg x0 x0
 have k1:0≤x*(4*s-4+x)∧x*(4*s-4+x)≤x*2:=⟨Rat.mul_nonneg x0 (by grind),Rat.mul_le_mul_of_nonneg_left (by grind) x0⟩
 have k2:x*x≤x*1:=Rat.mul_le_mul_of_nonneg_left (by grind) x0
 have c1:=bd _ _ l2 k1.1
 have c2:=bd _ _ l3 xx
 refine⟨⟨p,q⟩,by unfold Cq.nrm;exact l1,⟨by grind,?_⟩,?_⟩
 ·unfold Cq.nrm
  simp only[Cq.sub_re,Cq.sub_im,Cq.mul_re,Cq.mul_im,Cq.i_re,Cq.i_im]
  have e1:=rsq_mono c1.1 (show p*p-q*q≤x*2 by grind)
  have e2:=rsq_mono c2.1 (show 1-2*(p*q)≤x*1 by grind)
  have e3:=rsq_mono (a:=x) (b:=δ/10000000000000) x0 x1
  have dd:=rsq δ
  grind
 ·have n19:=nr19
  have hz:Cq.Near ⟨p,q⟩ (zz (815238614083256671) (815238614083107505)) (3/10000000000):=by
   refine⟨by decide +kernel,?_⟩
   have cc:∀y c t:Rat,y*(4-2*s-x)=c → -(2/10000000000)≤c-t*(4-2*s-x)→c-t*(4-2*s-x)≤2/10000000000→(y-t)*(y-t)≤(2/10000000000)*(2/10000000000):=fun y c t h h1 h2=>by
    rw[← h]at h1 h2
    refine near_real (by decide +kernel) ?_ ?_
    ·rcases Rat.le_total (a:=0) (b:=y-t)with k|k
     ·grind
     ·have:=Rat.mul_le_mul_of_nonneg_left D0 (show 0 ≤ -(y-t)by grind);grind
    ·rcases Rat.le_total (a:=0) (b:=y-t)with k|k
     ·have:=Rat.mul_le_mul_of_nonneg_left D0 k;grind
     ·grind
   have a1:=cc p _ (815238614083256671/1152921504606846976) r1 (by grind) (by grind)
   have a2:=cc q _ (815238614083107505/1152921504606846976) r2 (by grind) (by grind)
   unfold zz Cq.nrm
   simp only[Cq.sub_re,Cq.sub_im]
   have:(2/10000000000:Rat)*(2/10000000000)+(2/10000000000)*(2/10000000000)≤(3/10000000000)*(3/10000000000):=by decide +kernel
   push_cast
   grind
  exact(hz.trans n19).le (by decide +kernel)
end Go.Proofs.YticobgianbecpaaGreatDoor
namespace Go.Proofs.YticobgianbecpaaGreatDoor
theorem eta_seq:∃h:Nat→Cq,∀m,(h m).nrm=1∧Cq.Near (h m*h m) Cq.i (1/1000000000000*((1:Rat)/(m+1)))∧Cq.Near (h m) (E 524288) (1/2000000000) :=
 ⟨fun m=>Classical.choose (eta_ex m),fun m=>Classical.choose_spec (eta_ex m)⟩
theorem Dir.ip {l:Int} (h:l%1048576=0):Dir l fun _=>ip (l/1048576):=by
 refine⟨fun _=>(near_ip l h).le (by decide +kernel),fun _ d hd=>Ev.of fun n => ?_⟩
 rw[ct_ip l h]
 exact(Cq.Near.rfl _).le (by grind)
theorem near_mul1 {a b c d:Cq}{e f:Rat} (h:Cq.Near a b e) (h2:Cq.Near c d f) (ha:a.nrm=1) (hd:d.nrm=1):Cq.Near (a*c) (b*d) (f+e) :=
 (h.mul h2 (A:=1) (B:=1) (by decide) (by rw[ha];decide +kernel) (by decide) (by rw[hd];decide +kernel)).le (by grind)
theorem near_small (x:Rat) (_m0:0≤x):∀d:Rat,0<d→Ev fun n=>1048576*(x*((1:Rat)/(n+1)))≤d:=fun d hd=>by
 obtain⟨N,hN⟩:=great_nat (1048576*x/d)
 have hN:=(Rat.div_lt_iff hd).1 hN
 refine⟨N,fun n hn => ?_⟩
 have c:(N:Rat)≤(n:Rat):=Rat.natCast_le_natCast.2 hn
 have m0:(0:Rat)<(n:Rat)+1:=by have:=Rat.natCast_nonneg (a:=n);grind
 have r:=rdiv_mul 1 ((n:Rat)+1) (by grind)
 refine rle_of_mul m0 ?_
 have e:1048576*(x*((1:Rat)/(n+1)))*((n:Rat)+1)=1048576*x:=by rw[show 1048576*(x*((1:Rat)/(n+1)))*((n:Rat)+1)=1048576*x*((1:Rat)/(n+1)*(n+1))by grind,r];grind
 rw[e]
 have:=Rat.mul_le_mul_of_nonneg_right c (show 0≤d by grind)
 grind
theorem unit_ex (l:Int):∃u:Nat→Cq,(∀n,(u n).nrm=1)∧(Dir l u∧Dir (2*l) fun n=>u n*u n)∧(l=0→∀n,u n=Cq.one):=by
 have hp:(plc l:Int)=l%4194304:=by unfold plc;omega
 have hp2:(plc (2*l):Int)=2*l%4194304:=by unfold plc;omega
 have twice:Cq.Near (E (plc l)*E (plc l)) (E (plc (2*l))) (1/50000000000):=by
  rw[← E_add]
  have c:plc l+plc l=plc (2*l)∨plc l+plc l=plc (2*l)+4194304:=by omega
  rcases c with c|c
  ·rw[c];exact(Cq.Near.rfl _).le (by decide +kernel)
  ·rw[c,E_add]
   have w:=near_w.mul_left (E (plc (2*l))) 1 (by decide) (e_len _)
   rw[Cq.mul_one]at w
   exact w.symm.le (by decide +kernel)
 by_cases c:l%524288=0
 ·by_cases c2:l%1048576=0
  ·refine⟨fun _=>ip (l/1048576),fun _=>ip_nrm _,⟨Dir.ip c2,?_⟩,fun h n=>by rw[h];rfl⟩
   have t:=Dir.ip (l:=2*l) (by omega)
   rw[show 2*l/1048576=l/1048576+l/1048576 by omega,ip_add]at t
   exact t
  ·obtain⟨h,hh⟩:=eta_seq
   have n2:∀n,(ip (l/1048576)*h n).nrm=1:=fun n=>by rw[Cq.nrm_mul,ip_nrm,(hh n).1];grind
   have sq:∀n,ip (l/1048576)*h n*(ip (l/1048576)*h n)=ip (l/1048576+l/1048576)*(h n*h n):=fun n=>by rw[ip_add];apply Cq.ext'<;>simp<;>grind
   have qi:ip (2*l/1048576)=ip (l/1048576+l/1048576)*Cq.i:=by
    rw[show 2*l/1048576=(l/1048576+l/1048576)+1 by omega,ip_add]
    rfl
   have nb:∀n,Cq.Near (ip (l/1048576+l/1048576)*(h n*h n)) (ip (2*l/1048576)) (1/1000000000000*((1:Rat)/(n+1))):=fun n=>by
    rw[qi]
    exact((hh n).2.1.mul_left _ 1 (by decide) (by rw[ip_nrm];decide +kernel)).le (by grind)
   refine⟨fun n=>ip (l/1048576)*h n,n2,⟨⟨fun n => ?_,fun k=>absurd k c2⟩,⟨fun n => ?_,fun _ d hd => ?_⟩⟩,fun k=>by omega⟩
   ·have q:=near_ip (l-524288) (by omega)
    have e:(l-524288)/1048576=l/1048576:=by omega
    have hp3:(plc (l-524288):Int)=(l-524288)%4194304:=by unfold plc;omega
    rw[e]at q
    have t:=near_mul1 q (hh n).2.2 (ip_nrm _) (E_nrm _)
    rw[← E_add,show plc (l-524288)+524288=plc l by omega]at t
    exact t.le (by decide +kernel)
   ·dsimp only
    rw[sq]
    have i1:(1:Rat)/(n+1)≤1:=by
     have:=Rat.natCast_nonneg (a:=n)
     refine rle_of_mul (show(0:Rat)<(n:Rat)+1 by grind) ?_
     rw[rdiv_mul _ _ (by grind)];grind
    exact((nb n).trans (near_ip (2*l) (by omega))).le (by grind)
   ·rw[ct_ip (2*l) (by omega)]
    refine(near_small (1/1000000000000) (by decide +kernel) d hd).mono fun n hn => ?_
    dsimp only
    rw[sq]
    exact((nb n).scale 1048576 (by decide)).le hn
 ·refine⟨fun _=>E (plc l),fun _=>E_nrm _,⟨⟨fun _=>(Cq.Near.rfl _).le (by decide +kernel),fun k=>by omega⟩,⟨fun _=>twice.le (by decide +kernel),fun k=>by omega⟩⟩,fun k=>by omega⟩
end Go.Proofs.YticobgianbecpaaGreatDoor
namespace Go.Proofs.YticobgianbecpaaGreatDoor
def pXe (M:Int):Rat:=256*(M:Rat)*62831853/10000000/1125899906842624
theorem pXe_xU {M j:Int} (h:j≤M):dv (un (xU j)) 20≤pXe M:=by
 have e:=un_dv (xU j) 20
 have h1:10000000*xU j≤256*j*62831853:=by unfold xU;omega
 have h2:=rint _ _ h1
 have h3:=rint _ _ h
 have e20:((2^20:Nat):Rat)=1048576:=by simp
 rw[e20]at e
 push_cast at h2 h3
 unfold pXe
 grind
theorem pXe_xD {M k:Int} (h0:0≤k) (h:M≤k):pXe M≤dv (un (xD k)) 20:=by
 have e:=un_dv (xD k) 20
 have h3:=rint _ _ h
 have e20:((2^20:Nat):Rat)=1048576:=by simp
 rw[e20]at e
 have h1:256*k*62831853≤10000000*xD k:=by unfold xD;omega
 have h2:=rint _ _ h1
 push_cast at h2 h3
 unfold pXe
 grind
theorem pX_two (M:Int):pXe (2*M)=pXe M+pXe M:=by unfold pXe;push_cast;grind
theorem pX_bd {M:Int} (h0:0≤M) (h1:M≤33554432):0≤pXe M∧pXe M≤1/2:=by
 have a:=rint _ _ h0
 have b:=rint _ _ h1
 push_cast at a b
 unfold pXe
 constructor<;>grind
def fade (M:Int):Rat:=sqR 20 (gR (pXe M))
theorem fade_nn {M:Int} (h0:0≤M) (h1:M≤33554432):0≤fade M:=by
 have b:=pX_bd h0 h1
 exact sqR_nonneg 20 (gR_pos b.1 (by grind))
theorem sqR_one:∀k,sqR k 1=1
 | 0=>rfl
 | k+1=>by show sqR k (1*1)=1;rw[show(1:Rat)*1=1 by decide +kernel];exact sqR_one k
theorem fade_le1 {M:Int} (h0:0≤M) (h1:M≤33554432):fade M≤1:=by
 have b:=pX_bd h0 h1
 have g:=gR_anti (a:=0) (by decide) b.1 (by grind)
 have z:gR 0=1:=by unfold gR;grind
 rw[z]at g
 have:=sqR_mono 20 (gR_pos b.1 (by grind)) g
 rw[sqR_one]at this
 exact this
theorem fade_up' {M j:Int} (h0:0≤j) (h1:j≤M) (h2:j≤16777216) (h3:M≤33554432):fade M*1073741824≤(upF (xU j):Rat):=by
 have xb:=xU_bd h0 h2
 have u:=upF_ge xb.1 (by omega)
 have b:=pX_bd (M:=M) (by omega) h3
 have fb:=fine_bd xb.1 (by omega)
 have g:=gR_anti fb.1 (pXe_xU h1) (by grind)
 have m:=sqR_mono 20 (gR_pos b.1 (by grind)) g
 unfold fade
 grind
theorem fade_two {M:Int} (h0:0≤M) (h1:M≤16777216):fade M*fade M≤fade (2*M):=by
 have b:=pX_bd (M:=2*M) (by omega) (by omega)
 have b1:=pX_bd (M:=M) (by omega) (by omega)
 have h:=gR_half b.1 (by grind)
 have e:pXe (2*M)/2=pXe M:=by rw[pX_two];grind
 rw[e]at h
 have p:=gR_pos b1.1 (by grind)
 have m:=sqR_mono 20 (Rat.mul_nonneg p p) h
 rw[sqR_mul]at m
 exact m
theorem fade_dn' {M k:Int} (h0:0≤M) (h1:M≤k) (h2:k≤16777216):(dnF (xD k):Rat)≤fade M*1073741824:=by
 have xb:=xD_bd (p:=k) (by omega) h2
 have u:=(dnF_le xb.1 (by omega)).1
 have b:=pX_bd h0 (by omega:M≤33554432)
 have fb:=fine_bd xb.1 (by omega)
 have g:=hR_anti b.1 (pXe_xD (by omega) h1) (by grind)
 have hg:=hR_le_gR b.1
 have c3:=Rat.mul_nonneg (Rat.mul_nonneg b.1 b.1) b.1
 have m:=sqR_mono 20 (hR_pos fb.1 (by grind)) (show hR (dv (un (xD k)) 20)≤gR (pXe M)by grind)
 unfold fade
 grind
theorem fade_dn2 {M k:Int} (h0:0≤M) (h1:M≤k) (h2:2*k≤16777216):(dnF (xD (2*k)):Rat)≤fade M*fade M*1073741824:=by
 have xb:=xD_bd (p:=2*k) (by omega) h2
 have u:=(dnF_le xb.1 (by omega)).1
 have b:=pX_bd h0 (by omega:M≤33554432)
 have fb:=fine_bd xb.1 (by omega)
 have px:=pXe_xD (M:=2*M) (k:=2*k) (by omega) (by omega)
 rw[pX_two]at px
 have g:=hR_anti (a:=pXe M+pXe M) (by grind) px (by grind)
 have hg:=gR_mul b.1 b.1
 have m:=sqR_mono 20 (hR_pos fb.1 (by grind)) (show hR (dv (un (xD (2*k))) 20)≤gR (pXe M)*gR (pXe M)by grind)
 rw[sqR_mul]at m
 unfold fade
 grind
theorem upF_small:upF (xU 16777216)≤1024:=by decide +kernel
theorem upF_half:upF (xU 8388608)≤100000:=by decide +kernel
theorem fade_ex {M:Int} (h0:0≤M):∃φ:Rat,0≤φ∧φ≤1∧∀lo hi:Int,0≤lo→lo≤M→M≤hi →
  ((fLo hi:Rat)≤1048576*φ∧1048576*φ≤(fHi lo:Rat))∧((fLo (2*hi):Rat)≤1048576*(φ*φ)∧1048576*(φ*φ)≤(fHi (2*lo):Rat)):=by
 obtain⟨N,hN,N0,N1,NM⟩:∃N:Int,(N=M∨N=16777216)∧0≤N∧N≤16777216∧N≤M:=by
  rcases Int.le_total M 16777216 with c|c
  ·exact⟨M,.inl rfl,h0,c,by omega⟩
  ·exact⟨16777216,.inr rfl,by omega,by omega,c⟩
 have p0:=fade_nn N0 (by omega)
 have p1:=fade_le1 N0 (by omega)
 refine⟨fade N,p0,p1,fun lo hi l0 l1 l2 => ?_⟩
 have pp:=Rat.mul_nonneg p0 p0
 have small:=rint _ _ upF_small
 have half:=rint _ _ upF_half
 push_cast at small half
 have up:∀(j:Int) (v:Rat),0≤v→(j≤16777216→v*1073741824≤(upF (xU j):Rat))→(16777216<j→v*1048576≤1)→1048576*v≤(fHi j:Rat):=fun j v v0 h1 h2=>by
  unfold fHi
  by_cases c:j≤16777216
  ·rw[if_pos c]
   have u:=ceil_ge (upF (xU j)) 1024 (by decide)
   have:=h1 c
   push_cast at u ⊢
   grind
  ·rw[if_neg c]
   have:=h2 (by omega)
   push_cast
   grind
 have dn:∀(k:Int) (v:Rat),0≤v→(k≤16777216→(dnF (xD k):Rat)≤v*1073741824)→(fLo k:Rat)≤1048576*v:=fun k v v0 h1=>by
  unfold fLo
  by_cases c:k≤16777216
  ·rw[if_pos c]
   have u:=rint _ _ (show 1024*(dnF (xD k)/1024)≤dnF (xD k)by omega)
   have:=h1 c
   push_cast at u ⊢
   grind
  ·rw[if_neg c];push_cast;grind
 have last:fade 16777216*1073741824≤1024:=Rat.le_trans (fade_up' (M:=16777216) (j:=16777216) (by decide) (by decide) (by decide) (by decide)) small
 refine⟨⟨dn hi _ p0 fun c => ?_,up lo _ p0 (fun c => ?_) fun c => ?_⟩,⟨dn (2*hi) _ pp fun c => ?_,up (2*lo) _ pp (fun c => ?_) fun c => ?_⟩⟩
 ·exact fade_dn' N0 (by omega) c
 ·rcases hN with rfl|rfl
  ·exact fade_up' l0 l1 c (by omega)
  ·exact fade_up' l0 c c (by decide)
 ·rcases hN with rfl|rfl
  ·omega
  ·grind
 ·have e:N=M:=by omega
  rw[e]
  exact fade_dn2 h0 l2 c
 ·have h2:=fade_two N0 N1
  have h3:fade (2*N)*1073741824≤(upF (xU (2*lo)):Rat):=fade_up' (by omega) (by omega) c (by omega)
  grind
 ·have h3:fade N*1073741824≤(upF (xU 8388608):Rat):=fade_up' (by omega) (by omega) (by decide) (by omega)
  have b:fade N≤100000/1073741824:=by grind
  have:=rsq_mono p0 b
  grind
end Go.Proofs.YticobgianbecpaaGreatDoor
