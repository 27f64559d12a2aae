/- Joined: SeenLaw TrueSeen TrueMeet. -/
import Derived.Test.YticobgianbecpaaGreatDoorKPred
import Derived.Test.YticobgianbecpaaGreatDoorKTrue
namespace Go.Proofs.YticobgianbecpaaGreatDoor
open Go Go.Sort Go.RowKit
@[irreducible] def apartB (S T:Seen):Bool:=(decide (S.n1<T.n0)||decide (T.n1<S.n0))||((decide (S.c1<T.c0)||decide (T.c1<S.c0))||(decide (S.s1<T.s0)||decide (T.s1<S.s0)))
@[irreducible] def insideB (S T:Seen):Bool := !((decide (S.n0<T.n0)||decide (T.n1<S.n1))||((decide (S.c0<T.c0)||decide (T.c1<S.c1))||(decide (S.s0<T.s0)||decide (T.s1<S.s1))))
theorem apart_symm (S T:Seen):apartB S T=apartB T S:=by
 unfold apartB
 simp only[Bool.or_comm (decide (S.n1<T.n0)),Bool.or_comm (decide (S.c1<T.c0)),Bool.or_comm (decide (S.s1<T.s0))]
theorem inside_self (S:Seen):insideB S S=true:=by unfold insideB;simp
structure SeenOk (S:Seen):Prop where
 n : -1048576≤S.n0∧S.n0≤S.n1∧S.n1≤1048576
 c : -1048576≤S.c0∧S.c0≤S.c1∧S.c1≤1048576
 s : -1048576≤S.s0∧S.s0≤S.s1∧S.s1≤1048576
theorem apart_self {S:Seen} (h:SeenOk S):apartB S S=false:=by
 obtain⟨h1,h2,h3⟩:=h
 unfold apartB
 simp
 omega
theorem clamp_range {a b:Int} (h:a≤b) : -1048576≤clamp a∧clamp a≤clamp b∧clamp b≤1048576:=by unfold clamp;omega
theorem le_cdv {x A:Int} (hA:0<A):x/A≤cdv x A:=by
 have h1:=Int.ediv_mul_le x (show A≠0 by omega)
 have h2:=Int.ediv_mul_le (-x) (show A≠0 by omega)
 unfold cdv
 have h3:x/A*A + -x/A*A≤0:=by omega
 have h4:(x/A + -x/A)*A≤0*A:=by rw[Int.add_mul];omega
 have h5:=Int.le_of_mul_le_mul_right h4 hA
 omega
theorem loC_hiC {lo hi A B:Int} (hA:0<A):loC lo hi A B≤hiC lo hi A B:=by
 have:=le_cdv (x := -2*lo*1048576) hA
 unfold loC hiC
 omega
theorem loN_hiN {a0 a1 c0 c1:Int} (h0:0≤a0) (ha:a0≤a1) (g0:0≤c0) (hc:c0≤c1) (hz:0<a0+c0):loN a0 c1≤hiN a1 c0:=by
 unfold loN hiN cdv
 have p1:0<a0+c1:=by omega
 have p2:0<a1+c0:=by omega
 have h1:=Int.ediv_mul_le ((a0-c1)*1048576) (show a0+c1≠0 by omega)
 have h2:=Int.ediv_mul_le (-((a1-c0)*1048576)) (show a1+c0≠0 by omega)
 generalize (a0-c1)*1048576/(a0+c1)=x at *
 generalize -((a1-c0)*1048576)/(a1+c0)=y at *
 have k1:x*(a0+c1)*(a1+c0)≤(a0-c1)*1048576*(a1+c0):=Int.mul_le_mul_of_nonneg_right h1 (by omega)
 have k2:y*(a1+c0)*(a0+c1) ≤ -((a1-c0)*1048576)*(a0+c1):=Int.mul_le_mul_of_nonneg_right h2 (by omega)
 have k3:0≤a1*(c1-c0):=Int.mul_nonneg (by omega) (by omega)
 have k4:0≤(a1-a0)*c0:=Int.mul_nonneg (by omega) g0
 have k5:(x+y)*((a0+c1)*(a1+c0))≤0*((a0+c1)*(a1+c0)):=by grind
 have k6:=Int.le_of_mul_le_mul_right k5 (Int.mul_pos p1 p2)
 omega
theorem seenM_ok {R0 R1 M:Res} (h0:Fine R0) (h1:Fine R1) (hz:enRL R0+enRL R1≠0):SeenOk (seenM R0 R1 M):=by
 obtain⟨a0,a1,_⟩:=enR_le h0
 obtain⟨c0,c1,_⟩:=enR_le h1
 unfold seenM
 exact⟨clamp_range (loN_hiN a0 a1 c0 c1 (by omega)),clamp_range (loC_hiC (by omega)),clamp_range (loC_hiC (by omega))⟩
theorem seenR_ok {R0 R1:Res} (h0:Fine R0) (h1:Fine R1):SeenOk (seenR R0 R1):=by
 have bad:∀q,SeenOk (.bad q):=fun q=>⟨by simp[Seen.bad],by simp[Seen.bad],by simp[Seen.bad]⟩
 unfold seenR
 split
 ·split
  ·split
   ·split
    ·exact bad _
    ·rename_i h;exact seenM_ok h0 h1 h
   ·exact bad _
  ·exact bad _
 ·exact bad _
theorem seenB_ok (wv ix si:Int) (ls:List Box) (oi ol:Int):SeenOk (seenB wv ix si ls oi ol):=by
 unfold seenB
 exact seenR_ok (fine_amp _ _) (fine_amp _ _)
@[irreducible] def tellsB (wv ix si:Int) (A B:List Box) (oi ol:Int):Bool:=decide ((seenB wv ix si A oi ol).q=0)&&(decide ((seenB wv ix si B oi ol).q=0)&&apartB (seenB wv ix si A oi ol) (seenB wv ix si B oi ol))
end Go.Proofs.YticobgianbecpaaGreatDoor
namespace Go.Proofs.YticobgianbecpaaGreatDoor
theorem rt_low {a b c:Int} (h:Right a b c):(rt (a*a+b*b):Rat)*(rt (a*a+b*b):Rat)≤(⟨a,b⟩:Cq).nrm∧(0:Rat)≤(rt (a*a+b*b):Rat)∧(rt (a*a+b*b):Rat)≤1073741824:=by
 obtain⟨⟨h1,h2,h3,h4⟩,_⟩:=h
 have sq:∀x:Int, -67108864≤x→x≤67108864→0≤x*x∧x*x≤4503599627370496:=fun x h1 h2=>by
  have a:=Int.mul_nonneg (show 0≤67108864-x by omega) (show 0≤67108864+x by omega)
  have e:(67108864-x)*(67108864+x)=4503599627370496-x*x:=by grind
  have n:0≤x*x:=(Int.le_total 0 x).elim (fun c=>Int.mul_nonneg c c) (fun c=>Int.mul_nonneg_of_nonpos_of_nonpos c c)
  omega
 have qa:=sq a h1 h2
 have qb:=sq b h3 h4
 have rs:=rint _ _ (rt_spec (n:=a*a+b*b) (by omega) (by omega)).1
 have rl:=rint _ _ (rt_le (n:=a*a+b*b) (b:=1073741824) (by omega) (by omega) (by omega) (by omega))
 have r0:=rint _ _ (rt_nonneg (a*a+b*b))
 push_cast at rs rl r0
 exact⟨by unfold Cq.nrm;grind,r0,rl⟩
theorem in_en {R:Res}{z:Nat→Cq} (h:In R z):∀δ:Rat,0<δ→δ≤1→Ev fun n=>(enRL R:Rat)-δ≤1048576*(z n).nrm∧1048576*(z n).nrm≤(enRH R:Rat)+δ:=fun δ hδ d1=>by
 have fR:=h.1.right
 obtain⟨l1,A0,A1⟩:=right_len fR
 obtain⟨l2,B0,B1⟩:=rt_low fR
 obtain⟨r0,r1⟩:=right_rad fR
 refine(h.2.2 (δ/8192) (by grind)).mono fun n p=>⟨?_,?_⟩
 ·unfold enRL enL
  have c:max 0 (rt (R.a*R.a+R.b*R.b)-R.c)=0∨(0<rt (R.a*R.a+R.b*R.b)-R.c∧max 0 (rt (R.a*R.a+R.b*R.b)-R.c)=rt (R.a*R.a+R.b*R.b)-R.c):=by omega
  rcases c with c|⟨c,e⟩
  ·rw[c]
   have:=(z n).nrm_nn
   simp
   grind
  ·rw[e]
   have c':=rint _ _ (show R.c+1≤rt (R.a*R.a+R.b*R.b)by omega)
   have v:=rint _ _ (Int.ediv_mul_le ((rt (R.a*R.a+R.b*R.b)-R.c)*(rt (R.a*R.a+R.b*R.b)-R.c)) (show(1048576:Int)≠0 by decide))
   push_cast at c' v
   have f:=p.far l2 (by grind)
   rw[Cq.nrm_scale]at f
   generalize ((rt (R.a*R.a+R.b*R.b)-R.c)*(rt (R.a*R.a+R.b*R.b)-R.c)/1048576:Int)=k at *
   generalize (rt (R.a*R.a+R.b*R.b):Rat)=D at *
   generalize (R.c:Rat)=r at *
   have m:=Rat.mul_le_mul_of_nonneg_left (show D-r≤1073741824 by grind) (show 0≤δ by grind)
   have:=rsq (δ/8192)
   grind
 ·have t:=p.len A0 l1
  rw[Cq.nrm_scale]at t
  unfold enRH enH
  have u:=ceil_ge ((rtu (R.a*R.a+R.b*R.b)+R.c)*(rtu (R.a*R.a+R.b*R.b)+R.c)) 1048576 (by decide)
  push_cast at u ⊢
  generalize (-((rtu (R.a*R.a+R.b*R.b)+R.c)*(rtu (R.a*R.a+R.b*R.b)+R.c))/1048576:Int)=k at *
  generalize (rtu (R.a*R.a+R.b*R.b):Rat)=A at *
  generalize (R.c:Rat)=r at *
  have m:=Rat.mul_le_mul_of_nonneg_left (show A+r≤1140850689 by grind) (show 0≤δ by grind)
  have m2:=Rat.mul_le_mul_of_nonneg_left d1 (show 0≤δ by grind)
  grind
theorem quot_meet {lo hi:Int}{x s:Nat→Rat} (hs:Ev fun n=>1/2≤s n) (h1:∀δ:Rat,0<δ→δ≤1→Ev fun n=>((lo:Rat)-δ)*s n≤x n) (h2:∀δ:Rat,0<δ→δ≤1→Ev fun n=>x n≤((hi:Rat)+δ)*s n):lo≤hi:=by
 refine int_le 2 (by decide) fun δ hδ d1 => ?_
 obtain⟨n,⟨a,b⟩,c⟩:=(((h1 δ hδ d1).and (h2 δ hδ d1)).and hs).ex
 refine rle_of_mul (show 0<s n by grind) ?_
 grind
theorem en_sum {R0 R1:Res}{z0 z1:Nat→Cq} (h0:In R0 z0) (h1:In R1 z1) (hz:enRL R0+enRL R1≠0):Ev fun n=>1/2≤1048576*(z0 n).nrm+1048576*(z1 n).nrm:=by
 have a:=(enR_le h0.1).1
 have b:=(enR_le h1.1).1
 have c:=rint _ _ (show 1≤enRL R0+enRL R1 by omega)
 push_cast at c
 exact((in_en h0 (1/4) (by decide +kernel) (by decide +kernel)).and (in_en h1 (1/4) (by decide +kernel) (by decide +kernel))).mono fun n ⟨p,q⟩=>by grind
theorem n_low {R0 R1:Res}{z0 z1:Nat→Cq} (h0:In R0 z0) (h1:In R1 z1) (hz:enRL R0+enRL R1≠0) :
  ∀δ:Rat,0<δ→δ≤1→Ev fun n=>((loN (enRL R0) (enRH R1):Rat)-δ)*(1048576*(z0 n).nrm+1048576*(z1 n).nrm)≤1048576*(1048576*(z0 n).nrm-1048576*(z1 n).nrm):=fun δ hδ d1=>by
 have a:=enR_le h0.1
 have b:=enR_le h1.1
 have v:loN (enRL R0) (enRH R1)*(enRL R0+enRH R1)≤(enRL R0-enRH R1)*1048576:=by unfold loN;exact Int.ediv_mul_le _ (by omega)
 have bd : -1048576≤loN (enRL R0) (enRH R1)∧loN (enRL R0) (enRH R1)≤1048576:=by
  unfold loN
  constructor
  ·exact Int.le_ediv_of_mul_le (by omega) (by omega)
  ·exact Int.ediv_le_of_le_mul (by omega) (by omega)
 have v':=rint _ _ v
 have b0:=rint _ _ bd.1
 have b1:=rint _ _ bd.2
 push_cast at v' b0 b1
 refine(((in_en h0 (δ/8388608) (by grind) (by grind)).and (in_en h1 (δ/8388608) (by grind) (by grind))).and (en_sum h0 h1 hz)).mono fun n ⟨⟨p,q⟩,s⟩ => ?_
 generalize (loN (enRL R0) (enRH R1):Rat)=N at *
 generalize 1048576*(z0 n).nrm=e0 at *
 generalize 1048576*(z1 n).nrm=e1 at *
 have m1:=Rat.mul_nonneg (show 0≤e0-enRL R0+δ/8388608 by grind) (show 0≤1048576-N by grind)
 have m2:=Rat.mul_nonneg (show 0≤enRH R1-e1+δ/8388608 by grind) (show 0≤1048576+N by grind)
 have m3:=Rat.mul_le_mul_of_nonneg_left s (show 0≤δ by grind)
 have m4:=Rat.mul_le_mul_of_nonneg_left b1 (show 0≤δ by grind)
 have m5:=Rat.mul_le_mul_of_nonneg_left b0 (show 0≤δ by grind)
 grind
theorem n_high {R0 R1:Res}{z0 z1:Nat→Cq} (h0:In R0 z0) (h1:In R1 z1) (hz:enRL R0+enRL R1≠0) :
  ∀δ:Rat,0<δ→δ≤1→Ev fun n=>1048576*(1048576*(z0 n).nrm-1048576*(z1 n).nrm)≤((hiN (enRH R0) (enRL R1):Rat)+δ)*(1048576*(z0 n).nrm+1048576*(z1 n).nrm):=fun δ hδ d1=>by
 have a:=enR_le h0.1
 have b:=enR_le h1.1
 have v:(enRH R0-enRL R1)*1048576≤hiN (enRH R0) (enRL R1)*(enRH R0+enRL R1):=by
  unfold hiN cdv
  have:=Int.ediv_mul_le (-((enRH R0-enRL R1)*1048576)) (show enRH R0+enRL R1≠0 by omega)
  rw[Int.neg_mul];omega
 have bd : -1048576≤hiN (enRH R0) (enRL R1)∧hiN (enRH R0) (enRL R1)≤1048576:=by
  unfold hiN cdv
  constructor
  ·have : -((enRH R0-enRL R1)*1048576)/(enRH R0+enRL R1)≤1048576:=Int.ediv_le_of_le_mul (by omega) (by omega)
   omega
  ·have : -1048576 ≤ -((enRH R0-enRL R1)*1048576)/(enRH R0+enRL R1):=Int.le_ediv_of_mul_le (by omega) (by omega)
   omega
 have v':=rint _ _ v
 have b0:=rint _ _ bd.1
 have b1:=rint _ _ bd.2
 push_cast at v' b0 b1
 refine(((in_en h0 (δ/8388608) (by grind) (by grind)).and (in_en h1 (δ/8388608) (by grind) (by grind))).and (en_sum h0 h1 hz)).mono fun n ⟨⟨p,q⟩,s⟩ => ?_
 generalize (hiN (enRH R0) (enRL R1):Rat)=N at *
 generalize 1048576*(z0 n).nrm=e0 at *
 generalize 1048576*(z1 n).nrm=e1 at *
 have m1:=Rat.mul_nonneg (show 0≤enRH R0-e0+δ/8388608 by grind) (show 0≤1048576-N by grind)
 have m2:=Rat.mul_nonneg (show 0≤e1-enRL R1+δ/8388608 by grind) (show 0≤1048576+N by grind)
 have m3:=Rat.mul_le_mul_of_nonneg_left s (show 0≤δ by grind)
 have m4:=Rat.mul_le_mul_of_nonneg_left b1 (show 0≤δ by grind)
 have m5:=Rat.mul_le_mul_of_nonneg_left b0 (show 0≤δ by grind)
 grind
theorem c_low {R0 R1:Res}{z0 z1:Nat→Cq}{lo hi:Int}{x:Nat→Rat} (h0:In R0 z0) (h1:In R1 z1) (hz:enRL R0+enRL R1≠0)
  (hx:∀δ:Rat,0<δ→Ev fun n=>(lo:Rat)-δ≤1048576*x n∧1048576*x n≤hi+δ) :
  ∀δ:Rat,0<δ→δ≤1→Ev fun n=>((loC lo hi (enRL R0+enRL R1) (enRH R0+enRH R1):Rat)-δ)*(1048576*(z0 n).nrm+1048576*(z1 n).nrm) ≤ -2*1048576*(1048576*x n):=fun δ hδ d1=>by
 have a:=enR_le h0.1
 have b:=enR_le h1.1
 have v1:loC lo hi (enRL R0+enRL R1) (enRH R0+enRH R1)*(enRL R0+enRL R1) ≤ -2*hi*1048576:=Int.le_trans (Int.mul_le_mul_of_nonneg_right (show _ ≤ -2*hi*1048576/(enRL R0+enRL R1)by unfold loC;omega) (by omega)) (Int.ediv_mul_le _ (by omega))
 have v2:loC lo hi (enRL R0+enRL R1) (enRH R0+enRH R1)*(enRH R0+enRH R1) ≤ -2*hi*1048576:=Int.le_trans (Int.mul_le_mul_of_nonneg_right (show _ ≤ -2*hi*1048576/(enRH R0+enRH R1)by unfold loC;omega) (by omega)) (Int.ediv_mul_le _ (by omega))
 generalize loC lo hi (enRL R0+enRL R1) (enRH R0+enRH R1)=N at *
 have w1:=rint _ _ v1
 have w2:=rint _ _ v2
 push_cast at w1 w2
 obtain⟨K,hK⟩:=great_nat ((N:Rat)*N+1)
 have k0:(0:Rat)<8388608*(K+1):=by have:=rsq (N:Rat);grind
 have dd:=rdiv_mul δ (8388608*((K:Rat)+1)) (by grind)
 have d0:0<δ/(8388608*((K:Rat)+1)):=(Rat.lt_div_iff k0).2 (by grind)
 have d2:δ/(8388608*((K:Rat)+1))≤1:=rle_of_mul k0 (by rw[dd];have:=rsq (N:Rat);grind)
 generalize δ/(8388608*((K:Rat)+1))=ε at *
 refine((((in_en h0 ε d0 d2).and (in_en h1 ε d0 d2)).and (en_sum h0 h1 hz)).and (hx ε d0)).mono fun n ⟨⟨⟨p,q⟩,s⟩,y⟩ => ?_
 generalize 1048576*(z0 n).nrm=e0 at *
 generalize 1048576*(z1 n).nrm=e1 at *
 generalize 1048576*x n=X at *
 have NK : -(K:Rat)≤N∧(N:Rat)≤K:=by
  have:=rsq ((N:Rat)-1)
  have:=rsq ((N:Rat)+1)
  constructor<;>grind
 have m3:=Rat.mul_le_mul_of_nonneg_left s (show 0≤δ by grind)
 have m4:=Rat.mul_nonneg (show 0≤ε by grind) (show 0≤K-(N:Rat)by grind)
 have m5:=Rat.mul_nonneg (show 0≤ε by grind) (show 0≤K+(N:Rat)by grind)
 rcases Rat.le_total (a:=0) (b:=(N:Rat))with c|c
 ·have:=Rat.mul_le_mul_of_nonneg_left (show e0+e1≤enRH R0+enRH R1+2*ε by grind) c
  grind
 ·have:=Rat.mul_le_mul_of_nonneg_left (show enRL R0+enRL R1-2*ε≤e0+e1 by grind) (show 0 ≤ -(N:Rat)by grind)
  grind
theorem c_high {R0 R1:Res}{z0 z1:Nat→Cq}{lo hi:Int}{x:Nat→Rat} (h0:In R0 z0) (h1:In R1 z1) (hz:enRL R0+enRL R1≠0)
  (hx:∀δ:Rat,0<δ→Ev fun n=>(lo:Rat)-δ≤1048576*x n∧1048576*x n≤hi+δ) :
  ∀δ:Rat,0<δ→δ≤1→Ev fun n => -2*1048576*(1048576*x n)≤((hiC lo hi (enRL R0+enRL R1) (enRH R0+enRH R1):Rat)+δ)*(1048576*(z0 n).nrm+1048576*(z1 n).nrm):=fun δ hδ d1=>by
 have a:=enR_le h0.1
 have b:=enR_le h1.1
 have up:∀B:Int,0<B → -2*lo*1048576≤cdv (-2*lo*1048576) B*B:=fun B hB=>by
  unfold cdv
  generalize -2*lo*1048576=X
  have:=Int.ediv_mul_le (-X) (show B≠0 by omega)
  rw[Int.neg_mul];omega
 have v1 : -2*lo*1048576≤hiC lo hi (enRL R0+enRL R1) (enRH R0+enRH R1)*(enRL R0+enRL R1):=Int.le_trans (up _ (by omega)) (Int.mul_le_mul_of_nonneg_right (by unfold hiC;omega) (by omega))
 have v2 : -2*lo*1048576≤hiC lo hi (enRL R0+enRL R1) (enRH R0+enRH R1)*(enRH R0+enRH R1):=Int.le_trans (up _ (by omega)) (Int.mul_le_mul_of_nonneg_right (by unfold hiC;omega) (by omega))
 generalize hiC lo hi (enRL R0+enRL R1) (enRH R0+enRH R1)=N at *
 have w1:=rint _ _ v1
 have w2:=rint _ _ v2
 push_cast at w1 w2
 obtain⟨K,hK⟩:=great_nat ((N:Rat)*N+1)
 have k0:(0:Rat)<8388608*(K+1):=by have:=rsq (N:Rat);grind
 have dd:=rdiv_mul δ (8388608*((K:Rat)+1)) (by grind)
 have d0:0<δ/(8388608*((K:Rat)+1)):=(Rat.lt_div_iff k0).2 (by grind)
 have d2:δ/(8388608*((K:Rat)+1))≤1:=rle_of_mul k0 (by rw[dd];have:=rsq (N:Rat);grind)
 generalize δ/(8388608*((K:Rat)+1))=ε at *
 refine((((in_en h0 ε d0 d2).and (in_en h1 ε d0 d2)).and (en_sum h0 h1 hz)).and (hx ε d0)).mono fun n ⟨⟨⟨p,q⟩,s⟩,y⟩ => ?_
 generalize 1048576*(z0 n).nrm=e0 at *
 generalize 1048576*(z1 n).nrm=e1 at *
 generalize 1048576*x n=X at *
 have NK : -(K:Rat)≤N∧(N:Rat)≤K:=by
  have:=rsq ((N:Rat)-1)
  have:=rsq ((N:Rat)+1)
  constructor<;>grind
 have m3:=Rat.mul_le_mul_of_nonneg_left s (show 0≤δ by grind)
 have m4:=Rat.mul_nonneg (show 0≤ε by grind) (show 0≤K-(N:Rat)by grind)
 have m5:=Rat.mul_nonneg (show 0≤ε by grind) (show 0≤K+(N:Rat)by grind)
 rcases Rat.le_total (a:=0) (b:=(N:Rat))with c|c
 ·have:=Rat.mul_le_mul_of_nonneg_left (show enRL R0+enRL R1-2*ε≤e0+e1 by grind) c
  grind
 ·have:=Rat.mul_le_mul_of_nonneg_left (show e0+e1≤enRH R0+enRH R1+2*ε by grind) (show 0 ≤ -(N:Rat)by grind)
  grind
theorem seen_val {R S:Res} (h:(seenR R S).q=0):R.q=0∧S.q=0∧(ti S (cj R)).q=0∧enRL R+enRL S≠0∧seenR R S=seenM R S (ti S (cj R)):=by
 unfold seenR at h ⊢
 by_cases c1:R.q=0
 ·rw[if_pos c1]at h ⊢
  by_cases c2:S.q=0
  ·rw[if_pos c2]at h ⊢
   by_cases c3:(ti S (cj R)).q=0
   ·rw[if_pos c3]at h ⊢
    by_cases c4:enRL R+enRL S=0
    ·rw[if_pos c4]at h;exact absurd h (by decide)
    ·rw[if_neg c4];exact⟨c1,c2,c3,c4,rfl⟩
   ·rw[if_neg c3]at h;exact absurd h c3
  ·rw[if_neg c2]at h;exact absurd h c2
 ·rw[if_neg c1]at h;exact absurd h c1
theorem clamp_mono {a b:Int} (h:a≤b):clamp a≤clamp b:=by unfold clamp;omega
theorem seen_le {R S R' S':Res}{z w:Nat→Cq} (h0:In R z) (h1:In S w) (k0:In R' z) (k1:In S' w) (cq:(cj R).q=0) (cq':(cj R').q=0) (hq:(seenR R S).q=0) (kq:(seenR R' S').q=0) :
  (seenR R S).n0≤(seenR R' S').n1∧(seenR R S).c0≤(seenR R' S').c1∧(seenR R S).s0≤(seenR R' S').s1:=by
 obtain⟨_,_,a3,a4,ae⟩:=seen_val hq
 obtain⟨_,_,b3,b4,be⟩:=seen_val kq
 rw[ae,be]
 have m:=in_ti h1 (in_cj h0 cq) a3
 have m':=in_ti k1 (in_cj k0 cq') b3
 have s:=en_sum h0 h1 a4
 unfold seenM
 exact⟨clamp_mono (quot_meet s (n_low h0 h1 a4) (n_high k0 k1 b4)),clamp_mono (quot_meet s (c_low h0 h1 a4 m.re) (c_high k0 k1 b4 m'.re)),clamp_mono (quot_meet s (c_low h0 h1 a4 m.im) (c_high k0 k1 b4 m'.im))⟩
end Go.Proofs.YticobgianbecpaaGreatDoor
namespace Go.Proofs.YticobgianbecpaaGreatDoor
theorem Lays.all {ps:List PL}{bs:List Box} (h:Lays ps bs):AllAt ps bs:=by
 induction h with
 | nil=>exact .nil
 | cons h _ ih=>exact .cons h.i ih
theorem ask_ok {wv ix si po oi ol:Int}{A:List Box}{ps:List PL} (a:AskOk (askF wv ix si po A oi ol none 0)) (h:Lays ps A):(⟨ix,si,po,wv,ps,oi,ol⟩:PA).ok (askF wv ix si po A oi ol none 0) :=
 ⟨⟨rfl,Int.le_refl _,Int.le_refl _,rfl,Int.le_refl _,Int.le_refl _,h.all,rfl,rfl⟩,h,Int.le_trans (by decide) a.i0,Int.le_trans (by decide) a.w0,Int.le_trans (by decide) a.oi0,a.ol0⟩
theorem seenB_in {wv ix si oi ol:Int}{A:List Box}{ps:List PL} (a:∀po,po=0∨po=1→AskOk (askF wv ix si po A oi ol none 0)) (h:Lays ps A) (q:(seenB wv ix si A oi ol).q=0) :
  In (ampR (askF wv ix si 0 A oi ol none 0) false) (ampN ⟨ix,si,0,wv,ps,oi,ol⟩ false)∧In (ampR (askF wv ix si 1 A oi ol none 0) false) (ampN ⟨ix,si,1,wv,ps,oi,ol⟩ false):=by
 unfold seenB at q
 obtain⟨q0,q1,_⟩:=seen_val q
 exact⟨(in_amp (ask_ok (a 0 (.inl rfl)) h) q0).1,(in_amp (ask_ok (a 1 (.inr rfl)) h) q1).1⟩
theorem seenB_le {wv ix si oi ol:Int}{A B:List Box}{ps:List PL} (a:∀po,po=0∨po=1→AskOk (askF wv ix si po A oi ol none 0)) (b:∀po,po=0∨po=1→AskOk (askF wv ix si po B oi ol none 0))
  (hA:Lays ps A) (hB:Lays ps B) (qa:(seenB wv ix si A oi ol).q=0) (qb:(seenB wv ix si B oi ol).q=0) :
  (seenB wv ix si A oi ol).n0≤(seenB wv ix si B oi ol).n1∧(seenB wv ix si A oi ol).c0≤(seenB wv ix si B oi ol).c1∧(seenB wv ix si A oi ol).s0≤(seenB wv ix si B oi ol).s1:=by
 obtain⟨a0,a1⟩:=seenB_in a hA qa
 obtain⟨b0,b1⟩:=seenB_in b hB qb
 unfold seenB at qa qb ⊢
 exact seen_le a0 a1 b0 b1 (cj_good a0.1) (cj_good b0.1) qa qb
def Touch (a b:Box):Prop:=a.lo=b.lo∧a.il≤b.ih∧b.il≤a.ih∧a.tl≤b.th∧b.tl≤a.th
inductive Touches:List Box→List Box→Prop
 | nil:Touches [] []
 | cons {a b xs bs} (h:Touch a b) (t:Touches xs bs):Touches (a::xs) (b::bs)
theorem touch_lays {A B:List Box} (h:Touches A B) (ha:∀b∈A,BoxOk b) (hb:∀b∈B,BoxOk b):∃ps,Lays ps A∧Lays ps B:=by
 induction h with
 | nil=>exact⟨[],.nil,.nil⟩
 | @cons a b xs bs h _ ih =>
  obtain⟨ps,h1,h2⟩:=ih (fun x hx=>ha x (List.mem_cons_of_mem _ hx)) (fun x hx=>hb x (List.mem_cons_of_mem _ hx))
  have ka:=ha a (List.mem_cons_self ..)
  have kb:=hb b (List.mem_cons_self ..)
  obtain⟨t1,t2,t3,t4,t5⟩:=h
  have i1:=ka.i1
  have i2:=kb.i1
  have i3:=ka.t1
  have i4:=kb.t1
  have i5:=ka.i0
  have i6:=ka.l0
  have i7:=ka.t0
  have i8:=kb.t0
  refine⟨⟨max a.il b.il,max a.tl b.tl,a.lo⟩::ps,.cons ⟨⟨?_,?_,?_,?_,rfl⟩,?_,?_,?_⟩ h1,.cons ⟨⟨?_,?_,?_,?_,t1.symm⟩,?_,?_,?_⟩ h2⟩<;>(try dsimp only)<;>omega
theorem touch_refl:∀ {A B:List Box},Touches A B→Touches B A
 | _,_,.nil => .nil
 | _,_,.cons h t => .cons ⟨h.1.symm,h.2.2.1,h.2.1,h.2.2.2.2,h.2.2.2.1⟩ (touch_refl t)
theorem touch_apart {wv ix si oi ol:Int}{A B:List Box} (a:∀po,po=0∨po=1→AskOk (askF wv ix si po A oi ol none 0)) (b:∀po,po=0∨po=1→AskOk (askF wv ix si po B oi ol none 0))
  (h:Touches A B) (qa:(seenB wv ix si A oi ol).q=0) (qb:(seenB wv ix si B oi ol).q=0):apartB (seenB wv ix si A oi ol) (seenB wv ix si B oi ol)=false:=by
 obtain⟨ps,hA,hB⟩:=touch_lays h (a 0 (.inl rfl)).ls (b 0 (.inl rfl)).ls
 have h1:=seenB_le a b hA hB qa qb
 have h2:=seenB_le b a hB hA qb qa
 generalize seenB wv ix si A oi ol=S at *
 generalize seenB wv ix si B oi ol=T at *
 unfold apartB
 simp
 omega
end Go.Proofs.YticobgianbecpaaGreatDoor
