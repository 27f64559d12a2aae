/- Joined: FadeLaw FadeWalk RefFade Fading. -/
import Derived.Test.YticobgianbecpaaGreatDoorKAdds
import Derived.Test.YticobgianbecpaaGreatDoorKCalm
import Derived.Test.YticobgianbecpaaGreatDoorKAwake
namespace Go.Proofs.YticobgianbecpaaGreatDoor
def hvF (x:Int):Nat→Nat→Nat
 | 0,k=>k
 | n+1,k=>if 1048576*(2^k:Nat)<x then hvF x n (k+1)else k
@[irreducible] def hv (x:Int):Nat:=hvF x 20 0
def sqU:Nat→Int→Int
 | 0,f=>f
 | k+1,f=>sqU k (-(-(f*f)/1073741824))
def sqD:Nat→Int→Int
 | 0,f=>f
 | k+1,f=>sqD k (f*f/1073741824)
@[irreducible] def upF (x:Int):Int:=sqU (hv x) (1073741824-x/(2^hv x:Nat) + -(-(x/(2^hv x:Nat)*(x/(2^hv x:Nat)))/2147483648))
@[irreducible] def dnU (x:Int):Int := -(-x/(2^hv x:Nat))
@[irreducible] def dnF (x:Int):Int:=sqD (hv x) (1073741824-dnU x+dnU x*dnU x/2147483648 - -(-(dnU x*dnU x*dnU x)/6917529027641081856))
theorem hvF_spec (x:Int):∀n k,x≤1048576*(2^(k+n):Nat)→(∀j,j<k→1048576*(2^j:Nat)<x) →
  k≤hvF x n k∧hvF x n k≤k+n∧x≤1048576*(2^hvF x n k:Nat)∧(∀j,j<hvF x n k→1048576*(2^j:Nat)<x)
 | 0,k,h,hj=>⟨Nat.le_refl _,by simp[hvF],by simpa[hvF]using h,by simpa[hvF]using hj⟩
 | n+1,k,h,hj=>by
  unfold hvF
  split
  ·rename_i h1
   obtain⟨a,b,c,d⟩:=hvF_spec x n (k+1) (by rw[show k+1+n=k+(n+1)by omega];exact h) (fun j hlt=>by
    by_cases e:j=k
    ·subst e;exact h1
    ·exact hj j (by omega))
   exact⟨by omega,by omega,c,d⟩
  ·rename_i h1
   exact⟨Nat.le_refl _,by omega,by omega,hj⟩
theorem hv_spec {x:Int} (h:x≤1099511627776):hv x≤20∧x≤1048576*(2^hv x:Nat):=by
 have:=hvF_spec x 20 0 (by simpa using h) (fun j hj=>absurd hj (by omega))
 unfold hv
 exact⟨by omega,this.2.2.1⟩
def gR (t:Rat):Rat:=1-t+t*t/2
def hR (t:Rat):Rat:=1-t+t*t/2-t*t*t/6
def sqR:Nat→Rat→Rat
 | 0,t=>t
 | k+1,t=>sqR k (t*t)
theorem rmul {a b c d:Rat} (h0:0≤a) (h1:a≤b) (h2:0≤c) (h3:c≤d):a*c≤b*d:=by
 have x:=Rat.mul_le_mul_of_nonneg_right h1 h2
 have y:=Rat.mul_le_mul_of_nonneg_left h3 (show 0≤b by grind)
 grind
theorem sqR_nonneg:∀k {a:Rat},0≤a→0≤sqR k a
 | 0,_,h=>h
 | k+1,_,h=>sqR_nonneg k (Rat.mul_nonneg h h)
theorem sqR_mono:∀k {a b:Rat},0≤a→a≤b→sqR k a≤sqR k b
 | 0,_,_,_,h=>h
 | k+1,_,_,h0,h=>sqR_mono k (Rat.mul_nonneg h0 h0) (rmul h0 h h0 h)
theorem sqR_mul:∀k (a b:Rat),sqR k (a*b)=sqR k a*sqR k b
 | 0,_,_=>rfl
 | k+1,a,b=>by unfold sqR;rw[← sqR_mul k];congr 1;grind
theorem sqR_succ (k:Nat) (a:Rat):sqR (k+1) a=sqR k a*sqR k a:=by rw[← sqR_mul];rfl
theorem sqR_add (k:Nat):∀j (a:Rat),sqR (j+k) a=sqR k (sqR j a)
 | 0,a=>by simp[sqR]
 | j+1,a=>by rw[show j+1+k=(j+k)+1 by omega];exact sqR_add k j (a*a)
theorem gR_pos {t:Rat} (_h0:0≤t) (h1:t≤1):0≤gR t:=by
 unfold gR
 have:=Rat.mul_nonneg (show 0≤1-t by grind) (show 0≤1-t by grind)
 grind
theorem hR_pos {t:Rat} (h0:0≤t) (h1:t≤1):0≤hR t:=by
 unfold hR
 have a:=Rat.mul_nonneg h0 h0
 have b:=Rat.mul_nonneg a (show 0≤1-t by grind)
 grind
theorem gR_anti {a b:Rat} (_h0:0≤a) (h:a≤b) (h1:b≤1):gR b≤gR a:=by
 have:=Rat.mul_nonneg (show 0≤b-a by grind) (show 0≤2-a-b by grind)
 unfold gR
 grind
theorem hR_anti {a b:Rat} (h0:0≤a) (h:a≤b) (h1:b≤1):hR b≤hR a:=by
 have p:=Rat.mul_nonneg (show 0≤b-a by grind) (show 0≤2-a-b by grind)
 have q:=Rat.mul_nonneg (show 0≤b-a by grind) (Rat.mul_nonneg h0 h0)
 have r:=Rat.mul_nonneg (show 0≤b-a by grind) (Rat.mul_nonneg h0 (show 0≤b by grind))
 have s:=Rat.mul_nonneg (show 0≤b-a by grind) (Rat.mul_nonneg (show 0≤b by grind) (show 0≤b by grind))
 unfold hR
 grind
theorem gR_half {t:Rat} (h0:0≤t) (h1:t≤1):gR (t/2)*gR (t/2)≤gR t:=by
 have p:=Rat.mul_nonneg (Rat.mul_nonneg (Rat.mul_nonneg h0 h0) h0) (show 0≤8-t by grind)
 unfold gR
 grind
theorem hR_half {t:Rat} (h0:0≤t) (h1:t≤1):hR t≤hR (t/2)*hR (t/2):=by
 have q:=Rat.mul_nonneg (Rat.mul_nonneg h0 h0) (Rat.mul_nonneg h0 h0)
 have p:=Rat.mul_nonneg q (show 0≤1-t by grind)
 have r:=Rat.mul_nonneg q (Rat.mul_nonneg h0 h0)
 unfold hR
 grind
theorem gR_mul {s t:Rat} (h0:0≤s) (h1:0≤t):hR (s+t)≤gR s*gR t:=by
 have a:=Rat.mul_nonneg (Rat.mul_nonneg h0 h0) h0
 have b:=Rat.mul_nonneg (Rat.mul_nonneg h1 h1) h1
 have c:=Rat.mul_nonneg (Rat.mul_nonneg h0 h1) (Rat.mul_nonneg h0 h1)
 unfold hR gR
 grind
theorem hR_le_gR {t:Rat} (_h0:0≤t):hR t≤gR t-t*t*t/6:=by unfold hR gR;grind
theorem hR_mul {s t:Rat} (h0:0≤s) (h1:0≤t) (s1:s≤1) (t1:t≤1):hR s*hR t≤gR (s+t):=by
 have st:=Rat.mul_nonneg h0 h1
 have a:=Rat.mul_nonneg (Rat.mul_nonneg h0 h0) h0
 have b:=Rat.mul_nonneg (Rat.mul_nonneg h1 h1) h1
 have ga:0≤gR s-1/3:=by
  have:=Rat.mul_nonneg (show 0≤1-s by grind) (show 0≤1-s by grind)
  unfold gR;grind
 have gb:0≤gR t-1/3:=by
  have:=Rat.mul_nonneg (show 0≤1-t by grind) (show 0≤1-t by grind)
  unfold gR;grind
 have c1:=Rat.mul_nonneg a gb
 have c2:=Rat.mul_nonneg b ga
 have d:=Rat.mul_nonneg st (show 0≤(1-s)+(1-t)by grind)
 have e1:=Rat.mul_nonneg st h0
 have e2:=Rat.mul_nonneg st h1
 have e3:=Rat.mul_nonneg e1 (show 0≤1-t by grind)
 have e4:=Rat.mul_nonneg a (show 0≤1-t by grind)
 have t2:t*t*t≤1:=by
  have:=rmul h1 t1 h1 t1
  have:=rmul (Rat.mul_nonneg h1 h1) this h1 t1
  grind
 have e5:=Rat.mul_nonneg a (show 0≤1-t*t*t by grind)
 have key:gR (s+t)-hR s*hR t=s*t*(s+t)/2-s*t*(s*t)/4+(s*s*s*gR t+t*t*t*gR s)/6-s*s*s*(t*t*t)/36:=by unfold hR gR;grind
 grind
def dv (t:Rat):Nat→Rat
 | 0=>t
 | k+1=>dv t k/2
theorem dv_bd {t:Rat} (h0:0≤t) (h1:t≤1):∀k,0≤dv t k∧dv t k≤1
 | 0=>⟨h0,h1⟩
 | k+1=>by have:=dv_bd h0 h1 k;unfold dv;constructor<;>grind
theorem g_fine {t:Rat} (h0:0≤t) (h1:t≤1):∀k,sqR k (gR (dv t k))≤gR t
 | 0=>by simp[sqR,dv]
 | k+1=>by
  have a:=dv_bd h0 h1 k
  have b:=gR_half a.1 a.2
  have c:=gR_pos (t:=dv t k/2) (by grind) (by grind)
  have d:=sqR_mono k (Rat.mul_nonneg c c) b
  have e:=g_fine h0 h1 k
  unfold sqR dv
  grind
theorem h_fine {t:Rat} (h0:0≤t) (h1:t≤1):∀k,hR t≤sqR k (hR (dv t k))
 | 0=>by simp[sqR,dv]
 | k+1=>by
  have a:=dv_bd h0 h1 k
  have b:=hR_half a.1 a.2
  have d:=sqR_mono k (hR_pos a.1 a.2) b
  have e:=h_fine h0 h1 k
  unfold sqR dv
  grind
theorem dv_lin (x:Rat):∀k,dv x k=x*dv 1 k
 | 0=>by simp[dv]
 | k+1=>by unfold dv;rw[dv_lin x k];grind
theorem dv_add (x y:Rat) (k:Nat):dv (x+y) k=dv x k+dv y k:=by rw[dv_lin,dv_lin x,dv_lin y];grind
theorem dv_dv (x:Rat) (j:Nat):∀k,dv x (j+k)=dv (dv x j) k
 | 0=>rfl
 | k+1=>by show dv x (j+k)/2=dv (dv x j) k/2;rw[dv_dv x j k]
theorem dv_one_pos:∀k,0<dv 1 k
 | 0=>by unfold dv;decide
 | k+1=>by have:=dv_one_pos k;unfold dv;grind
theorem dv_mono {x y:Rat} (h:x≤y) (k:Nat):dv x k≤dv y k:=by
 rw[dv_lin x,dv_lin y]
 exact Rat.mul_le_mul_of_nonneg_right h (by have:=dv_one_pos k;grind)
theorem dv_pow:∀k,dv 1 k*((2^k:Nat):Rat)=1
 | 0=>by simp[dv]
 | k+1=>by
  have:=dv_pow k
  unfold dv
  rw[Nat.pow_succ,Rat.natCast_mul]
  grind
theorem sqU_ge:∀k (t:Rat) (f:Int),0≤t→t*1073741824≤(f:Rat)→sqR k t*1073741824≤(sqU k f:Rat)
 | 0,_,_,_,h=>h
 | k+1,t,f,h0,h=>by
  unfold sqR sqU
  refine sqU_ge k _ _ (Rat.mul_nonneg h0 h0) ?_
  have c:f*f ≤ -(-(f*f)/1073741824)*1073741824:=by omega
  have c':((f*f:Int):Rat)≤((-(-(f*f)/1073741824)*1073741824:Int):Rat):=Rat.intCast_le_intCast.2 c
  rw[Rat.intCast_mul,Rat.intCast_mul]at c'
  have m:=rmul (show 0≤t*1073741824 by grind) h (show 0≤t*1073741824 by grind) h
  have e:((1073741824:Int):Rat)=1073741824:=rfl
  rw[e]at c'
  grind
theorem sqD_le:∀k (t:Rat) (f:Int),0≤f→(f:Rat)≤t*1073741824→(sqD k f:Rat)≤sqR k t*1073741824∧0≤sqD k f
 | 0,_,_,h0,h=>⟨h,h0⟩
 | k+1,t,f,h0,h=>by
  unfold sqR sqD
  have f0:(0:Rat)≤f:=by have:=Rat.intCast_le_intCast.2 h0;simpa using this
  refine sqD_le k _ _ (Int.ediv_nonneg (Int.mul_nonneg h0 h0) (by omega)) ?_
  have c:f*f/1073741824*1073741824≤f*f:=by omega
  have c':((f*f/1073741824*1073741824:Int):Rat)≤((f*f:Int):Rat):=Rat.intCast_le_intCast.2 c
  rw[Rat.intCast_mul,Rat.intCast_mul]at c'
  have m:=rmul f0 h f0 h
  have e:((1073741824:Int):Rat)=1073741824:=rfl
  rw[e]at c'
  grind
theorem cast_le {a b:Int} (h:a≤b):(a:Rat)≤(b:Rat):=Rat.intCast_le_intCast.2 h
theorem cast_nn {a:Int} (h:0≤a):(0:Rat)≤(a:Rat):=by have:=cast_le h;simpa using this
def un (x:Int):Rat:=(x:Rat)/1073741824
theorem un_dv (x:Int) (k:Nat):dv (un x) k*1073741824*((2^k:Nat):Rat)=x:=by
 have:=dv_pow k
 rw[dv_lin]
 unfold un
 grind
theorem upF_ge {x:Int} (h0:0≤x) (h1:x≤1099511627776):sqR 20 (gR (dv (un x) 20))*1073741824≤(upF x:Rat):=by
 obtain⟨k0,k1⟩:=hv_spec h1
 unfold upF
 generalize hk:hv x=k at *
 have hp:0<2^k:=Nat.two_pow_pos k
 have hP:(0:Rat)<((2^k:Nat):Rat):=by have:=cast_le (a:=1) (b:=((2^k:Nat):Int)) (by omega);rw[Rat.intCast_natCast]at this;grind
 obtain⟨u,hu⟩:∃u,u=x/((2^k:Nat):Int):=⟨_,rfl⟩
 have hu0:0≤u:=by rw[hu];exact Int.ediv_nonneg h0 (by omega)
 have hu1:u*((2^k:Nat):Int)≤x:=by rw[hu];exact Int.ediv_mul_le x (by omega)
 have hu2:u≤1048576:=by
  rw[hu]
  have:x/((2^k:Nat):Int)<1048577:=by rw[Int.ediv_lt_iff_lt_mul (by omega)];omega
  omega
 rw[← hu]
 have hy:=un_dv x k
 have y0:0≤dv (un x) k:=by
  have:(0:Rat)≤un x:=by unfold un;have:=cast_nn h0;grind
  have e:=dv_mono this k
  have z:dv (0:Rat) k=0:=by rw[dv_lin];grind
  grind
 have hx:(x:Rat)≤1048576*((2^k:Nat):Rat):=by
  have:=cast_le k1
  rw[Rat.intCast_mul,Rat.intCast_natCast]at this
  exact this
 have y1:dv (un x) k≤1/1024:=by
  have a:dv (un x) k*1073741824*((2^k:Nat):Rat)≤1048576*((2^k:Nat):Rat):=by rw[hy];exact hx
  have:=Rat.le_of_mul_le_mul_right a hP
  grind
 have uy:(u:Rat)≤dv (un x) k*1073741824:=by
  have a:=cast_le hu1
  rw[Rat.intCast_mul,Rat.intCast_natCast,← hy]at a
  exact Rat.le_of_mul_le_mul_right a hP
 have u0:=cast_nn hu0
 have c:2147483648 * -(-(u*u)/2147483648)≥u*u:=by omega
 have c':=cast_le c
 rw[Rat.intCast_mul,Rat.intCast_mul]at c'
 have e31:((2147483648:Int):Rat)=2147483648:=rfl
 rw[e31]at c'
 have e30:((1073741824:Int):Rat)=1073741824:=rfl
 have f:=sqU_ge k (gR (dv (un x) k)) (1073741824-u + -(-(u*u)/2147483648)) (gR_pos y0 (by grind)) (by
  rw[Rat.intCast_add,Rat.intCast_sub,e30]
  have g1:=gR_anti (a:=(u:Rat)/1073741824) (b:=dv (un x) k) (by grind) (by grind) (by grind)
  have g2:gR ((u:Rat)/1073741824)*1073741824≤1073741824-(u:Rat)+((-(-(u*u)/2147483648):Int):Rat):=by unfold gR;grind
  grind)
 have fine:=g_fine y0 (by grind) (20-k)
 have p:=dv_bd y0 (by grind) (20-k)
 rw[← dv_dv,show k+(20-k)=20 by omega]at fine p
 have m:=sqR_mono k (sqR_nonneg (20-k) (gR_pos p.1 p.2)) fine
 rw[← sqR_add,show 20-k+k=20 by omega]at m
 grind
theorem dnF_le {x:Int} (h0:0≤x) (h1:x≤1099511627776):(dnF x:Rat)≤sqR 20 (hR (dv (un x) 20))*1073741824∧0≤dnF x:=by
 obtain⟨k0,k1⟩:=hv_spec h1
 unfold dnF dnU
 generalize hk:hv x=k at *
 have hp:0<2^k:=Nat.two_pow_pos k
 have hP:(0:Rat)<((2^k:Nat):Rat):=by have:=cast_le (a:=1) (b:=((2^k:Nat):Int)) (by omega);rw[Rat.intCast_natCast]at this;grind
 obtain⟨u,hu⟩:∃u,u = -(-x/((2^k:Nat):Int)):=⟨_,rfl⟩
 have hu0:0≤u:=by
  have : -x/((2^k:Nat):Int)≤0:=Int.ediv_nonpos_of_nonpos_of_neg (by omega) (by omega)
  omega
 have hu1:x≤u*((2^k:Nat):Int):=by
  have:=Int.ediv_mul_le (-x) (show((2^k:Nat):Int)≠0 by omega)
  have e:u*((2^k:Nat):Int) = -(-x/((2^k:Nat):Int)*((2^k:Nat):Int)):=by rw[hu];grind
  omega
 have hu2:u≤1048576:=by
  have : -1048576 ≤ -x/((2^k:Nat):Int):=by rw[Int.le_ediv_iff_mul_le (by omega)];omega
  omega
 rw[← hu]
 have hy:=un_dv x k
 have y0:0≤dv (un x) k:=by
  have:(0:Rat)≤un x:=by unfold un;have:=cast_nn h0;grind
  have e:=dv_mono this k
  have z:dv (0:Rat) k=0:=by rw[dv_lin];grind
  grind
 have uy:dv (un x) k*1073741824≤(u:Rat):=by
  have a:=cast_le hu1
  rw[Rat.intCast_mul,Rat.intCast_natCast,← hy]at a
  exact Rat.le_of_mul_le_mul_right a hP
 have u0:=cast_nn hu0
 have u1:=cast_le hu2
 have e20:((1048576:Int):Rat)=1048576:=rfl
 rw[e20]at u1
 have uu:0≤u*u∧u*u≤1048576*u:=⟨Int.mul_nonneg hu0 hu0,Int.mul_le_mul_of_nonneg_right hu2 hu0⟩
 have uuu:0≤u*u*u∧u*u*u≤1099511627776*u:=by
  refine⟨Int.mul_nonneg uu.1 hu0,?_⟩
  have a:=Int.mul_le_mul_of_nonneg_right uu.2 hu0
  have e:1048576*u*u=1048576*(u*u):=by grind
  omega
 have c:2147483648*(u*u/2147483648)≤u*u:=by omega
 have d:u*u*u≤6917529027641081856 * -(-(u*u*u)/6917529027641081856):=by omega
 have c':=cast_le c
 have d':=cast_le d
 have e31:((2147483648:Int):Rat)=2147483648:=rfl
 have e62:((6917529027641081856:Int):Rat)=6917529027641081856:=rfl
 rw[Rat.intCast_mul,Rat.intCast_mul,e31]at c'
 rw[Rat.intCast_mul,Rat.intCast_mul,Rat.intCast_mul,e62]at d'
 have e30:((1073741824:Int):Rat)=1073741824:=rfl
 have f:=sqD_le k (hR (dv (un x) k)) (1073741824-u+u*u/2147483648 - -(-(u*u*u)/6917529027641081856)) (by
   have : -(-(u*u*u)/6917529027641081856)≤1:=by omega
   have:0≤u*u/2147483648:=by omega
   omega) (by
  rw[Rat.intCast_sub,Rat.intCast_add,Rat.intCast_sub,e30]
  have g1:=hR_anti (a:=dv (un x) k) (b:=(u:Rat)/1073741824) y0 (by grind) (by grind)
  have g2:1073741824-(u:Rat)+((u*u/2147483648:Int):Rat)-((-(-(u*u*u)/6917529027641081856):Int):Rat)≤hR ((u:Rat)/1073741824)*1073741824:=by unfold hR;grind
  grind)
 have fine:=h_fine y0 (by grind) (20-k)
 have p:=dv_bd y0 (by grind) (20-k)
 rw[← dv_dv,show k+(20-k)=20 by omega]at fine p
 have m:=sqR_mono k (hR_pos y0 (by grind)) fine
 rw[← sqR_add,show 20-k+k=20 by omega]at m
 exact⟨by have:=f.1;grind,f.2⟩
theorem fine_bd {x:Int} (h0:0≤x) (h1:x≤1099511627776):0≤dv (un x) 20∧dv (un x) 20≤1/1024:=by
 have hy:=un_dv x 20
 have a:=cast_nn h0
 have b:=cast_le h1
 have e:((2^20:Nat):Rat)=1048576:=by simp
 have e40:((1099511627776:Int):Rat)=1099511627776:=rfl
 rw[e40]at b
 rw[e]at hy
 constructor<;>grind
theorem dn_le_up_up {x y z:Int} (x0:0≤x) (x1:x≤1099511627776) (y0:0≤y) (y1:y≤1099511627776) (z1:z≤1099511627776) (h:x+y≤z):1073741824*dnF z≤upF x*upF y:=by
 have ux:=upF_ge x0 x1
 have uy:=upF_ge y0 y1
 have dz:=(dnF_le (x:=z) (by omega) z1).1
 have bx:=fine_bd x0 x1
 have by':=fine_bd y0 y1
 have bz:=fine_bd (x:=z) (by omega) z1
 have ha:dv (un x) 20+dv (un y) 20≤dv (un z) 20:=by
  rw[← dv_add]
  refine dv_mono ?_ 20
  have:=cast_le h
  rw[Rat.intCast_add]at this
  unfold un;grind
 have m1:=gR_mul bx.1 by'.1
 have m2:=hR_anti (a:=dv (un x) 20+dv (un y) 20) (b:=dv (un z) 20) (by grind) ha (by grind)
 have m3:=sqR_mono 20 (hR_pos bz.1 (by grind)) (show hR (dv (un z) 20)≤gR (dv (un x) 20)*gR (dv (un y) 20)by grind)
 rw[sqR_mul]at m3
 have px:=sqR_nonneg 20 (gR_pos bx.1 (by grind))
 have py:=sqR_nonneg 20 (gR_pos by'.1 (by grind))
 have m4:=rmul (show 0≤sqR 20 (gR (dv (un x) 20))*1073741824 by grind) ux (show 0≤sqR 20 (gR (dv (un y) 20))*1073741824 by grind) uy
 refine Rat.intCast_le_intCast.1 ?_
 have e30:((1073741824:Int):Rat)=1073741824:=rfl
 rw[Rat.intCast_mul,Rat.intCast_mul,e30]
 grind
theorem dn_dn_le_up {x y z:Int} (x0:0≤x) (x1:x≤1099511627776) (y0:0≤y) (y1:y≤1099511627776) (z0:0≤z) (z1:z≤1099511627776) (h:z≤x+y):dnF x*dnF y≤1073741824*upF z:=by
 have ux:=dnF_le x0 x1
 have uy:=dnF_le y0 y1
 have dz:=upF_ge z0 z1
 have bx:=fine_bd x0 x1
 have by':=fine_bd y0 y1
 have bz:=fine_bd z0 z1
 have ha:dv (un z) 20≤dv (un x) 20+dv (un y) 20:=by
  rw[← dv_add]
  refine dv_mono ?_ 20
  have:=cast_le h
  rw[Rat.intCast_add]at this
  unfold un;grind
 have m1:=hR_mul bx.1 by'.1 (by grind) (by grind)
 have m2:=gR_anti (a:=dv (un z) 20) (b:=dv (un x) 20+dv (un y) 20) bz.1 ha (by grind)
 have hx:=hR_pos bx.1 (by grind)
 have hy:=hR_pos by'.1 (by grind)
 have m3:=sqR_mono 20 (Rat.mul_nonneg hx hy) (show hR (dv (un x) 20)*hR (dv (un y) 20)≤gR (dv (un z) 20)by grind)
 rw[sqR_mul]at m3
 have m4:=rmul (cast_nn ux.2) ux.1 (cast_nn uy.2) uy.1
 refine Rat.intCast_le_intCast.1 ?_
 have e30:((1073741824:Int):Rat)=1073741824:=rfl
 rw[Rat.intCast_mul,Rat.intCast_mul,e30]
 grind
theorem sqU_bd:∀k (f:Int),0≤f→f≤1073741824→0≤sqU k f∧sqU k f≤1073741824
 | 0,_,h0,h1=>⟨h0,h1⟩
 | k+1,f,h0,h1=>by
  unfold sqU
  have a:0≤f*f:=Int.mul_nonneg h0 h0
  have b:f*f≤1073741824*1073741824:=Int.mul_le_mul h1 h1 h0 (by omega)
  exact sqU_bd k _ (by omega) (by omega)
theorem sqD_bd:∀k (f:Int),0≤f→f≤1073741824→0≤sqD k f∧sqD k f≤1073741824
 | 0,_,h0,h1=>⟨h0,h1⟩
 | k+1,f,h0,h1=>by
  unfold sqD
  have a:0≤f*f:=Int.mul_nonneg h0 h0
  have b:f*f≤1073741824*1073741824:=Int.mul_le_mul h1 h1 h0 (by omega)
  exact sqD_bd k _ (by omega) (by omega)
theorem upF_bd {x:Int} (h0:0≤x) (h1:x≤1099511627776):0≤upF x∧upF x≤1073741824:=by
 obtain⟨k0,k1⟩:=hv_spec h1
 unfold upF
 generalize hk:hv x=k at *
 have hp:0<2^k:=Nat.two_pow_pos k
 obtain⟨u,hu⟩:∃u,u=x/((2^k:Nat):Int):=⟨_,rfl⟩
 have hu0:0≤u:=by rw[hu];exact Int.ediv_nonneg h0 (by omega)
 have hu2:u≤1048576:=by
  rw[hu]
  have:x/((2^k:Nat):Int)<1048577:=by rw[Int.ediv_lt_iff_lt_mul (by omega)];omega
  omega
 rw[← hu]
 have uu:0≤u*u∧u*u≤1048576*u:=⟨Int.mul_nonneg hu0 hu0,Int.mul_le_mul_of_nonneg_right hu2 hu0⟩
 exact sqU_bd k _ (by omega) (by omega)
end Go.Proofs.YticobgianbecpaaGreatDoor
namespace Go.Proofs.YticobgianbecpaaGreatDoor
open Go.RowKit
theorem hv_eq (x:Int):hv x=hvF x 20 0:=by unfold hv;rfl
theorem hvF_step (x:Int) (n k:Nat):hvF x (n+1) k=if 1048576*(2^k:Nat)<x then hvF x n (k+1)else k:=rfl
set_option maxHeartbeats 1000000 in
theorem halved_any (x:Int) (w:World) (h1:x≤1099511627776) :
  Calls Tryz.prog 231 #[.int .i64 x] w fun e w'=>e = .returned (.int .i64 (hv x:Nat))∧w'=w:=by
 have H0:=Lib.hid (hv_eq x)
 go_enter Tryz.func231,Tryz.ntmps231
 go_wp2
 go_loop [3] (fun t=>∃k:Nat,k≤20∧Hid (hv x=hvF x (20-k) k)∧t = .int .i64 k) (fun t=>20-(intOf t).toNat)
 case atStart=>exact⟨0,by omega,H0,rfl⟩
 case round =>
  clear H0
  obtain⟨k,hk,HH,rfl⟩:=hrel
  obtain⟨T,hT⟩:∃T:Nat,T=2^k:=⟨_,rfl⟩
  have hT1:T≤1048576:=by
   have:2^k≤2^20:=Nat.pow_le_pow_right (by omega) hk
   omega
  have cP:((2:Int)^k)=(T:Int):=by rw[hT];push_cast;rfl
  have HT:=Lib.hid hT
  clear hT
  by_cases hc:1048576*(T:Int)<x
  ·have hk2:k<20:=by
    rcases Nat.lt_or_ge k 20 with h|h
    ·exact h
    ·have:k=20:=by omega
     subst this
     have:=HT.out
     omega
   have HS:Hid (hv x=hvF x (20-(k+1)) (k+1)):=Lib.hid (by
    rw[HH.out,show 20-k=(20-(k+1))+1 by omega,hvF_step,if_pos (by rw[← HT.out];exact hc)])
   go_wp2
   go_round
   case rel=>exact⟨k+1,by omega,HS,by go_num⟩
   case measure=>simp[intOf];omega
  ·have HS:Hid (k=hv x):=Lib.hid (by
    rw[HH.out]
    rcases Nat.lt_or_ge k 20 with h|h
    ·rw[show 20-k=(20-(k+1))+1 by omega,hvF_step,if_neg (by rw[← HT.out];exact hc)]
    ·rw[show 20-k=0 by omega];rfl)
   go_wp2
   go_ret
   exact⟨ret_int (by have:=HS.out;omega),rfl⟩
@[irreducible] def xU (p:Int):Int:=256*p*62831853/10000000
@[irreducible] def xD (p:Int):Int := -(-(256*p*62831854)/10000000)
theorem xU_bd {p:Int} (h0:0≤p) (h1:p≤16777216):0≤xU p∧xU p≤27487790694:=by unfold xU;omega
theorem xD_bd {p:Int} (h0:0≤p) (h1:p≤16777216):0≤xD p∧xD p≤27487790694:=by unfold xD;omega
theorem upF_eq (x:Int):upF x=sqU (hv x) (1073741824-x/(2^hv x:Nat) + -(-(x/(2^hv x:Nat)*(x/(2^hv x:Nat)))/2147483648)):=by unfold upF;rfl
theorem dnF_eq (x:Int):dnF x=sqD (hv x) (1073741824-dnU x+dnU x*dnU x/2147483648 - -(-(dnU x*dnU x*dnU x)/6917529027641081856)):=by unfold dnF;rfl
theorem dnU_eq (x:Int):dnU x = -(-x/(2^hv x:Nat)):=by unfold dnU;rfl
theorem sqU_step (k:Nat) (f:Int):sqU (k+1) f=sqU k (-(-(f*f)/1073741824)):=rfl
theorem sqD_step (k:Nat) (f:Int):sqD (k+1) f=sqD k (f*f/1073741824):=rfl
theorem part_bd {x:Int} (h0:0≤x) (h1:x≤1099511627776):hv x≤20∧0≤x/(2^hv x:Nat)∧x/(2^hv x:Nat)≤1048576∧0 ≤ -(-x/((2^hv x:Nat):Int)) ∧ -(-x/((2^hv x:Nat):Int))≤1048576∧1≤2^hv x∧2^hv x≤1048576:=by
 obtain⟨k0,k1⟩:=hv_spec h1
 have hp:0<2^hv x:=Nat.two_pow_pos _
 have hp2:2^hv x≤2^20:=Nat.pow_le_pow_right (by omega) k0
 generalize 2^hv x=T at *
 refine⟨k0,Int.ediv_nonneg h0 (by omega),?_,?_,?_,by omega,by omega⟩
 ·have:x/(T:Int)<1048577:=by rw[Int.ediv_lt_iff_lt_mul (by omega)];omega
  omega
 ·have : -x/(T:Int)≤0:=Int.ediv_nonpos_of_nonpos_of_neg (by omega) (by omega)
  omega
 ·have : -1048576 ≤ -x/(T:Int):=by rw[Int.le_ediv_iff_mul_le (by omega)];omega
  omega
theorem sq_bd {u M:Int} (h0:0≤u) (h1:u≤M):0≤u*u∧u*u≤M*M:=⟨Int.mul_nonneg h0 h0,Int.mul_le_mul h1 h1 h0 (by omega)⟩
set_option maxHeartbeats 1000000 in
theorem fadingUp_any (p:Int) (w:World) (h0:0≤p) (h1:p≤16777216) :
  Calls Tryz.prog 188 #[.int .i64 p] w fun e w'=>e = .returned (.int .i64 (upF (xU p)))∧w'=w:=by
 have xb:=xU_bd h0 h1
 obtain⟨x,hx⟩:∃x,256*p*62831853/10000000=x:=⟨_,rfl⟩
 have ex:xU p=x:=by unfold xU;exact hx
 rw[ex]at xb ⊢
 clear ex
 have pb:=part_bd xb.1 (by omega)
 have He:=Lib.hid (upF_eq x)
 obtain⟨k,hk⟩:∃k,k=hv x:=⟨_,rfl⟩
 have C:=Lib.hid (fun w=>halved_any x w (by omega))
 rw[← hk]at pb He C
 obtain⟨k0,u0,u1,_,_,T0,T1⟩:=pb
 obtain⟨u,hu⟩:∃u,x/((2^k:Nat):Int)=u:=⟨_,rfl⟩
 rw[hu]at u0 u1 He
 have cP:((2:Int)^k)=((2^k:Nat):Int):=by push_cast;rfl
 rw[← cP]at hu
 clear cP hk T0 T1
 have uu:=sq_bd u0 u1
 obtain⟨F,hF⟩:∃F,F=1073741824-u + -(-(u*u)/2147483648):=⟨_,rfl⟩
 rw[← hF]at He
 have hu2:u*u≤1048576*u:=Int.mul_le_mul_of_nonneg_right u1 u0
 have F0:0≤F∧F≤1073741824:=by omega
 have HF:=Lib.hid hF
 clear hF hu2
 go_enter Tryz.func188,Tryz.ntmps188
 go_wp2_with (first
  | (go_at_call 231;(with_reducible refine(C.out _).mono ?_);rintro e w' ⟨rfl,rfl⟩)
  | (go_at_call 111;(with_reducible refine(ceil_any _ _ _ (by omega) (by omega) (by omega) (by omega)).mono ?_);rintro e w' ⟨rfl,rfl⟩))
 go_loop [6,24] (fun f i=>∃(j:Nat) (G:Int),j≤k∧0≤G∧G≤1073741824∧Hid (upF x=sqU (k-j) G)∧f = .int .i64 G∧i = .int .i64 j) (fun _ i=>k-(intOf i).toNat)
 case atStart=>exact⟨0,F,by omega,F0.1,F0.2,He,by rw[HF.out],rfl⟩
 case round =>
  clear F0 hx hu He
  obtain⟨j,G,hj,G0,G1,HG,rfl,rfl⟩:=hrel
  have gg:=sq_bd G0 G1
  by_cases hlt:j<k
  ·have hlt':(j:Int)<(k:Int):=by omega
   have HS:Hid (upF x=sqU (k-(j+1)) (-(-(G*G)/1073741824))):=Lib.hid (by rw[HG.out,show k-j=(k-(j+1))+1 by omega,sqU_step])
   have hlh:=Lib.hid hlt
   clear hlt
   go_wp2_with (go_at_call 111;(with_reducible refine(ceil_any _ _ _ (by omega) (by omega) (by omega) (by omega)).mono ?_);rintro e w' ⟨rfl,rfl⟩)
   go_round
   case rel=>have:=hlh.out;exact⟨j+1,_,by omega,by omega,by omega,HS,rfl,by go_num⟩
   case measure=>have:=hlh.out;simp[intOf];omega
  ·have HS:Hid (G=upF x):=Lib.hid (by rw[HG.out,show k-j=0 by omega];rfl)
   have hge:(k:Int)≤(j:Int):=by omega
   go_wp2
   go_ret
   exact⟨ret_int HS.out,rfl⟩
set_option maxHeartbeats 1000000 in
theorem fadingDown_any (p:Int) (w:World) (h0:0≤p) (h1:p≤16777216) :
  Calls Tryz.prog 187 #[.int .i64 p] w fun e w'=>e = .returned (.int .i64 (dnF (xD p)))∧w'=w:=by
 have xb:=xD_bd h0 h1
 obtain⟨x,hx⟩:∃x, -(-(256*p*62831854)/10000000)=x:=⟨_,rfl⟩
 have ex:xD p=x:=by unfold xD;exact hx
 rw[ex]at xb ⊢
 clear ex
 have pb:=part_bd xb.1 (by omega)
 have He:=Lib.hid (dnF_eq x)
 have Hu:=Lib.hid (dnU_eq x)
 obtain⟨k,hk⟩:∃k,k=hv x:=⟨_,rfl⟩
 have C:=Lib.hid (fun w=>halved_any x w (by omega))
 rw[← hk]at pb He C Hu
 obtain⟨k0,_,_,u0,u1,T0,T1⟩:=pb
 have cP:((2:Int)^k)=((2^k:Nat):Int):=by push_cast;rfl
 generalize 2^k=T at *
 obtain⟨u,hu⟩:∃u,u = -(-x/(T:Int)):=⟨_,rfl⟩
 rw[← hu]at u0 u1
 have E:Hid (dnF x=sqD k (1073741824-u+u*u/2147483648 - -(-(u*u*u)/6917529027641081856))):=Lib.hid (by rw[He.out,Hu.out,← hu])
 clear He Hu hk
 have cX:∀w,Calls Tryz.prog 111 #[.int .i64 (256*p*62831854),.int .i64 10000000] w fun e w'=>e = .returned (.int .i64 x)∧w'=w:=fun w=>by
  rw[← hx];exact ceil_any _ _ w (by omega) (by omega) (by omega) (by omega)
 have cU:∀w,Calls Tryz.prog 111 #[.int .i64 x,.int .i64 T] w fun e w'=>e = .returned (.int .i64 u)∧w'=w:=fun w=>by
  rw[hu];exact ceil_any _ _ w (by omega) (by omega) (by omega) (by omega)
 have CX:=Lib.hid cX
 have CU:=Lib.hid cU
 clear cX cU hx hu
 have uu:=sq_bd u0 u1
 have uuu:0≤u*u*u∧u*u*u≤1152921504606846976:=by
  have:=mul_bd uu.1 uu.2 u0 u1
  omega
 have C3:=Lib.hid (fun w=>ceil_any (u*u*u) 6917529027641081856 w (by omega) (by omega) (by omega) (by omega))
 obtain⟨V,hV⟩:∃V,V = -(-(u*u*u)/6917529027641081856):=⟨_,rfl⟩
 rw[← hV]at C3 E
 have V0:0≤V∧V≤1:=by omega
 clear hV
 obtain⟨F,hF⟩:∃F,F=1073741824-u+u*u/2147483648-V:=⟨_,rfl⟩
 rw[← hF]at E
 have hu2:u*u≤1048576*u:=Int.mul_le_mul_of_nonneg_right u1 u0
 have F0:0≤F∧F≤1073741824:=by omega
 have HF:=Lib.hid hF
 clear hF hu2
 go_enter Tryz.func187,Tryz.ntmps187
 go_wp2_with (first
  | (go_at_call 231;(with_reducible refine(C.out _).mono ?_);rintro e w' ⟨rfl,rfl⟩)
  | (go_at_call 111;first
    | ((with_reducible refine(CX.out _).mono ?_);rintro e w' ⟨rfl,rfl⟩)
    | ((with_reducible refine(CU.out _).mono ?_);rintro e w' ⟨rfl,rfl⟩)
    | ((with_reducible refine(C3.out _).mono ?_);rintro e w' ⟨rfl,rfl⟩)))
 go_loop [6,32] (fun f i=>∃(j:Nat) (G:Int),j≤k∧0≤G∧G≤1073741824∧Hid (dnF x=sqD (k-j) G)∧f = .int .i64 G∧i = .int .i64 j) (fun _ i=>k-(intOf i).toNat)
 case atStart=>exact⟨0,F,by omega,F0.1,F0.2,E,by rw[HF.out],rfl⟩
 case round =>
  clear F0 E
  obtain⟨j,G,hj,G0,G1,HG,rfl,rfl⟩:=hrel
  have gg:=sq_bd G0 G1
  by_cases hlt:j<k
  ·have hlt':(j:Int)<(k:Int):=by omega
   have HS:Hid (dnF x=sqD (k-(j+1)) (G*G/1073741824)):=Lib.hid (by rw[HG.out,show k-j=(k-(j+1))+1 by omega,sqD_step])
   have hlh:=Lib.hid hlt
   clear hlt
   go_wp2
   go_round
   case rel=>have:=hlh.out;exact⟨j+1,_,by omega,by omega,by omega,HS,rfl,by go_num⟩
   case measure=>have:=hlh.out;simp[intOf];omega
  ·have HS:Hid (G=dnF x):=Lib.hid (by rw[HG.out,show k-j=0 by omega];rfl)
   have hge:(k:Int)≤(j:Int):=by omega
   go_wp2
   go_ret
   exact⟨ret_int HS.out,rfl⟩
end Go.Proofs.YticobgianbecpaaGreatDoor
namespace Go.Proofs.YticobgianbecpaaGreatDoor
open Go.RowKit
set_option maxHeartbeats 2000000 in
theorem fade_up (p:Int) (w:World) (h0:0≤p) (h1:p≤16777216) :
  Calls Tryz.prog 233 #[.int .i64 p,.bool true] w fun e w'=>e = .returned (.int .i64 (upF (xU p)))∧w'=w:=by
 have xb:=xU_bd h0 h1
 obtain⟨x,hx⟩:∃x,256*p*62831853/10000000=x:=⟨_,rfl⟩
 have ex:xU p=x:=by unfold xU;exact hx
 rw[ex]at xb ⊢
 clear ex
 have pb:=part_bd xb.1 (by omega)
 have He:=Lib.hid (upF_eq x)
 have Hx:=Lib.hid (show x≤1099511627776 by omega)
 have cX:∀w,Calls Tryz.prog 58 #[.int .i64 (256*p*62831853),.int .i64 10000000] w fun e w'=>e = .returned (.int .i64 x)∧w'=w:=fun w=>by
  rw[← hx];exact bFloor_any _ _ w (by omega) (by omega) (by omega) (by omega)
 have CX:=Lib.hid cX
 have H0:=Lib.hid (hv_eq x)
 have PB:=Lib.hid pb
 clear cX hx pb
 go_enter Tryz.func233,Tryz.ntmps233
 go_wp2_with (go_at_call 58;(with_reducible refine(CX.out _).mono ?_);rintro e w' ⟨rfl,rfl⟩)
 go_loop [6,7] (fun i b=>∃k T:Nat,k≤20∧(T:Int)≤1048576∧Hid (T=2^k)∧Hid (hv x=hvF x (20-k) k)∧i = .int .i64 k∧b = .int .i64 T) (fun i _=>20-(intOf i).toNat)
 case atStart=>exact⟨0,1,by omega,by omega,Lib.hid rfl,H0,rfl,rfl⟩
 case round =>
  clear H0
  obtain⟨k,T,hk,hT1,HT,HH,rfl,rfl⟩:=hrel
  by_cases hc:1048576*(T:Int)<x
  ·have hk2:k<20:=by
    rcases Nat.lt_or_ge k 20 with h|h
    ·exact h
    ·have:k=20:=by omega
     subst this
     have:=HT.out
     have:=Hx.out
     omega
   have HS:Hid (hv x=hvF x (20-(k+1)) (k+1)):=Lib.hid (by
    rw[HH.out,show 20-k=(20-(k+1))+1 by omega,hvF_step,if_pos (by rw[← HT.out];exact hc)])
   have HT2:Hid (2*T=2^(k+1)):=Lib.hid (by rw[HT.out,Nat.pow_succ];omega)
   have hT2:2*T≤1048576:=by
    have:2^(k+1)≤2^20:=Nat.pow_le_pow_right (by omega) hk2
    rw[HT2.out];omega
   have hTh:=Lib.hid hT2
   have hkh:=Lib.hid hk2
   clear hT2 hk2
   go_wp2
   go_round
   case rel=>have:=hTh.out;have:=hkh.out;exact⟨k+1,2*T,by omega,by omega,HT2,HS,by go_num,by go_num⟩
   case measure=>have:=hkh.out;simp[intOf];omega
  ·have HS:hv x=k:=by
    rw[HH.out]
    rcases Nat.lt_or_ge k 20 with h|h
    ·rw[show 20-k=(20-(k+1))+1 by omega,hvF_step,if_neg (by rw[← HT.out];exact hc)]
    ·rw[show 20-k=0 by omega];rfl
   have pb:=PB.out
   rw[HS,← HT.out]at pb
   have E:=He.out
   rw[HS,← HT.out]at E
   obtain⟨_,u0,u1,_,_,T0,T1⟩:=pb
   obtain⟨u,hu⟩:∃u,u=x/(T:Int):=⟨_,rfl⟩
   rw[← hu]at u0 u1 E
   have cU:∀w,Calls Tryz.prog 58 #[.int .i64 x,.int .i64 T] w fun e w'=>e = .returned (.int .i64 u)∧w'=w:=fun w=>by
    rw[hu];exact bFloor_any _ _ w (by omega) (by omega) (by omega) (by omega)
   have CU:=Lib.hid cU
   clear cU hu HS
   have uu:=sq_bd u0 u1
   obtain⟨F,hF⟩:∃F,F=1073741824-u + -(-(u*u)/2147483648):=⟨_,rfl⟩
   rw[← hF]at E
   have hu2:u*u≤1048576*u:=Int.mul_le_mul_of_nonneg_right u1 u0
   have F0:0≤F∧F≤1073741824:=by omega
   have HF:=Lib.hid hF
   have HE:=Lib.hid E
   clear hF hu2 E
   go_wp2_with (first
    | (go_at_call 58;(with_reducible refine(CU.out _).mono ?_);rintro e w' ⟨rfl,rfl⟩)
    | (go_at_call 59;(with_reducible refine(bCeil_any _ _ _ (by omega) (by omega) (by omega) (by omega)).mono ?_);rintro e w' ⟨rfl,rfl⟩))
   go_loop [8,11] (fun f i=>∃(j:Nat) (G:Int),j≤k∧0≤G∧G≤1073741824∧Hid (upF x=sqU (k-j) G)∧f = .int .i64 G∧i = .int .i64 j) (fun _ i=>k-(intOf i).toNat)
   case atStart=>exact⟨0,F,by omega,F0.1,F0.2,HE,by rw[HF.out],rfl⟩
   case round =>
    clear F0 HE
    obtain⟨j,G,hj,G0,G1,HG,rfl,rfl⟩:=hrel
    have gg:=sq_bd G0 G1
    by_cases hlt:j<k
    ·have hlt':(j:Int)<(k:Int):=by omega
     have HS:Hid (upF x=sqU (k-(j+1)) (-(-(G*G)/1073741824))):=Lib.hid (by rw[HG.out,show k-j=(k-(j+1))+1 by omega,sqU_step])
     have hlh:=Lib.hid hlt
     clear hlt
     go_wp2_with (go_at_call 59;(with_reducible refine(bCeil_any _ _ _ (by omega) (by omega) (by omega) (by omega)).mono ?_);rintro e w' ⟨rfl,rfl⟩)
     go_round
     case rel=>have:=hlh.out;exact⟨j+1,_,by omega,by omega,by omega,HS,rfl,by go_num⟩
     case measure=>have:=hlh.out;simp[intOf];omega
    ·have HS:Hid (G=upF x):=Lib.hid (by rw[HG.out,show k-j=0 by omega];rfl)
     have hge:(k:Int)≤(j:Int):=by omega
     go_wp2
     go_ret
     exact⟨ret_int HS.out,rfl⟩
set_option maxHeartbeats 2000000 in
theorem fade_dn (p:Int) (w:World) (h0:0≤p) (h1:p≤16777216) :
  Calls Tryz.prog 233 #[.int .i64 p,.bool false] w fun e w'=>e = .returned (.int .i64 (dnF (xD p)))∧w'=w:=by
 have xb:=xD_bd h0 h1
 obtain⟨x,hx⟩:∃x, -(-(256*p*62831854)/10000000)=x:=⟨_,rfl⟩
 have ex:xD p=x:=by unfold xD;exact hx
 rw[ex]at xb ⊢
 clear ex
 have pb:=part_bd xb.1 (by omega)
 have He:=Lib.hid (dnF_eq x)
 have Hu:=Lib.hid (dnU_eq x)
 have Hx:=Lib.hid (show x≤1099511627776 by omega)
 have cX:∀w,Calls Tryz.prog 59 #[.int .i64 (256*p*62831854),.int .i64 10000000] w fun e w'=>e = .returned (.int .i64 x)∧w'=w:=fun w=>by
  rw[← hx];exact bCeil_any _ _ w (by omega) (by omega) (by omega) (by omega)
 have CX:=Lib.hid cX
 have H0:=Lib.hid (hv_eq x)
 have PB:=Lib.hid pb
 clear cX hx pb
 go_enter Tryz.func233,Tryz.ntmps233
 go_wp2_with (go_at_call 59;(with_reducible refine(CX.out _).mono ?_);rintro e w' ⟨rfl,rfl⟩)
 go_loop [6,7] (fun i b=>∃k T:Nat,k≤20∧(T:Int)≤1048576∧Hid (T=2^k)∧Hid (hv x=hvF x (20-k) k)∧i = .int .i64 k∧b = .int .i64 T) (fun i _=>20-(intOf i).toNat)
 case atStart=>exact⟨0,1,by omega,by omega,Lib.hid rfl,H0,rfl,rfl⟩
 case round =>
  clear H0
  obtain⟨k,T,hk,hT1,HT,HH,rfl,rfl⟩:=hrel
  by_cases hc:1048576*(T:Int)<x
  ·have hk2:k<20:=by
    rcases Nat.lt_or_ge k 20 with h|h
    ·exact h
    ·have:k=20:=by omega
     subst this
     have:=HT.out
     have:=Hx.out
     omega
   have HS:Hid (hv x=hvF x (20-(k+1)) (k+1)):=Lib.hid (by
    rw[HH.out,show 20-k=(20-(k+1))+1 by omega,hvF_step,if_pos (by rw[← HT.out];exact hc)])
   have HT2:Hid (2*T=2^(k+1)):=Lib.hid (by rw[HT.out,Nat.pow_succ];omega)
   have hT2:2*T≤1048576:=by
    have:2^(k+1)≤2^20:=Nat.pow_le_pow_right (by omega) hk2
    rw[HT2.out];omega
   have hTh:=Lib.hid hT2
   have hkh:=Lib.hid hk2
   clear hT2 hk2
   go_wp2
   go_round
   case rel=>have:=hTh.out;have:=hkh.out;exact⟨k+1,2*T,by omega,by omega,HT2,HS,by go_num,by go_num⟩
   case measure=>have:=hkh.out;simp[intOf];omega
  ·have HS:hv x=k:=by
    rw[HH.out]
    rcases Nat.lt_or_ge k 20 with h|h
    ·rw[show 20-k=(20-(k+1))+1 by omega,hvF_step,if_neg (by rw[← HT.out];exact hc)]
    ·rw[show 20-k=0 by omega];rfl
   have pb:=PB.out
   rw[HS,← HT.out]at pb
   obtain⟨_,_,_,u0,u1,T0,T1⟩:=pb
   have Eu:=Hu.out
   rw[HS,← HT.out]at Eu
   obtain⟨u,hu⟩:∃u,u = -(-x/(T:Int)):=⟨_,rfl⟩
   rw[← hu]at u0 u1 Eu
   have E:=He.out
   rw[HS,Eu]at E
   have cU:∀w,Calls Tryz.prog 59 #[.int .i64 x,.int .i64 T] w fun e w'=>e = .returned (.int .i64 u)∧w'=w:=fun w=>by
    rw[hu];exact bCeil_any _ _ w (by omega) (by omega) (by omega) (by omega)
   have CU:=Lib.hid cU
   clear cU hu HS Eu
   have uu:=sq_bd u0 u1
   have uuu:0≤u*u*u∧u*u*u≤1152921504606846976:=by
    have:=mul_bd uu.1 uu.2 u0 u1
    omega
   have C3:=Lib.hid (fun w=>bCeil_any (u*u*u) 6917529027641081856 w (by omega) (by omega) (by omega) (by omega))
   obtain⟨V,hV⟩:∃V,V = -(-(u*u*u)/6917529027641081856):=⟨_,rfl⟩
   rw[← hV]at C3 E
   have V0:0≤V∧V≤1:=by omega
   clear hV
   obtain⟨F,hF⟩:∃F,F=1073741824-u+u*u/2147483648-V:=⟨_,rfl⟩
   rw[← hF]at E
   have hu2:u*u≤1048576*u:=Int.mul_le_mul_of_nonneg_right u1 u0
   have F0:0≤F∧F≤1073741824:=by omega
   have HF:=Lib.hid hF
   have HE:=Lib.hid E
   clear hF hu2 E
   go_wp2_with (first
    | (go_at_call 59;first
      | ((with_reducible refine(CU.out _).mono ?_);rintro e w' ⟨rfl,rfl⟩)
      | ((with_reducible refine(C3.out _).mono ?_);rintro e w' ⟨rfl,rfl⟩))
    | (go_at_call 58;(with_reducible refine(bFloor_any _ _ _ (by omega) (by omega) (by omega) (by omega)).mono ?_);rintro e w' ⟨rfl,rfl⟩))
   go_loop [8,11] (fun f i=>∃(j:Nat) (G:Int),j≤k∧0≤G∧G≤1073741824∧Hid (dnF x=sqD (k-j) G)∧f = .int .i64 G∧i = .int .i64 j) (fun _ i=>k-(intOf i).toNat)
   case atStart=>exact⟨0,F,by omega,F0.1,F0.2,HE,by rw[HF.out],rfl⟩
   case round =>
    clear F0 HE
    obtain⟨j,G,hj,G0,G1,HG,rfl,rfl⟩:=hrel
    have gg:=sq_bd G0 G1
    by_cases hlt:j<k
    ·have hlt':(j:Int)<(k:Int):=by omega
     have HS:Hid (dnF x=sqD (k-(j+1)) (G*G/1073741824)):=Lib.hid (by rw[HG.out,show k-j=(k-(j+1))+1 by omega,sqD_step])
     have hlh:=Lib.hid hlt
     clear hlt
     go_wp2_with (go_at_call 58;(with_reducible refine(bFloor_any _ _ _ (by omega) (by omega) (by omega) (by omega)).mono ?_);rintro e w' ⟨rfl,rfl⟩)
     go_round
     case rel=>have:=hlh.out;exact⟨j+1,_,by omega,by omega,by omega,HS,rfl,by go_num⟩
     case measure=>have:=hlh.out;simp[intOf];omega
    ·have HS:Hid (G=dnF x):=Lib.hid (by rw[HG.out,show k-j=0 by omega];rfl)
     have hge:(k:Int)≤(j:Int):=by omega
     go_wp2
     go_ret
     exact⟨ret_int HS.out,rfl⟩
end Go.Proofs.YticobgianbecpaaGreatDoor
namespace Go.Proofs.YticobgianbecpaaGreatDoor
open Go.RowKit
@[irreducible] def fLo (hi:Int):Int:=if hi≤16777216 then dnF (xD hi)/1024 else 0
@[irreducible] def fHi (lo:Int):Int:=if lo≤16777216 then -(-upF (xU lo)/1024)else 1
theorem dnF_bd {x:Int} (h0:0≤x) (h1:x≤1099511627776):0≤dnF x∧dnF x≤1073741824:=by
 have pb:=part_bd h0 h1
 rw[dnF_eq,dnU_eq]
 obtain⟨_,_,_,u0,u1,_,_⟩:=pb
 generalize -(-x/((2^hv x:Nat):Int))=u at *
 have uu:=sq_bd u0 u1
 have hu2:u*u≤1048576*u:=Int.mul_le_mul_of_nonneg_right u1 u0
 have uuu:0≤u*u*u∧u*u*u≤1152921504606846976:=by
  have:=mul_bd uu.1 uu.2 u0 u1
  omega
 exact sqD_bd _ _ (by omega) (by omega)
theorem ends_bd {lo hi:Int} (h0:0≤lo) (h1:0≤hi):(hi≤16777216→0≤dnF (xD hi)∧dnF (xD hi)≤1073741824)∧(lo≤16777216→0≤upF (xU lo)∧upF (xU lo)≤1073741824):=by
 constructor
 ·intro h
  have b:=xD_bd h1 h
  exact dnF_bd b.1 (by omega)
 ·intro h
  have b:=xU_bd h0 h
  exact upF_bd b.1 (by omega)
theorem ret_ends {a b c d q:Int} (h1:a=c) (h2:b=d):Ending.returned (.tuple #[.agg #[.int .i64 a,.int .i64 b],.int .i64 q]) = .returned (.tuple #[.agg #[.int .i64 c,.int .i64 d],.int .i64 q]):=by rw[h1,h2]
set_option maxHeartbeats 2000000 in
theorem Fading_A (lo hi D U:Int) (w:World) (h0:0≤lo) (h1:lo≤hi) (h2:hi≤16777216) (fd:(∀w,Calls Tryz.prog 187 #[.int .i64 hi] w fun e w'=>e = .returned (.int .i64 D)∧w'=w)) (fu:(∀w,Calls Tryz.prog 188 #[.int .i64 lo] w fun e w'=>e = .returned (.int .i64 U)∧w'=w)) (D0:0≤D) (D1:D≤1073741824) (U0:0≤U) (U1:U≤1073741824) :
  Calls Tryz.prog 126 #[.agg #[.int .i64 lo,.int .i64 hi]] w fun e w'=>e = .returned (.tuple #[.agg #[.int .i64 (D/1024),.int .i64 (-(-U/1024))],.int .i64 0])∧Below w.heap.size w w':=by
 have FD:=Lib.hid fd
 have FU:=Lib.hid fu
 clear fd fu
 by_cases c1:0<D/1024<;>by_cases c2 : -(-U/1024)<1048576
 all_goals
  go_enter Tryz.func126,Tryz.ntmps126
  go_wp2_with fail
  refine(checkParts_ok _ _ _ _ (by omega) (by omega) (by omega)).mono ?_
  rintro e w1 ⟨rfl,A0⟩
  have A1:=A0.size
  (try simp at A1)
  have A3:=bl5 A0 (w.heap.size)
  have A2:=bl5 A0 (w.heap.size+1)
  go_wp2_with fail
  refine(FD.out _).mono ?_
  rintro e w' ⟨rfl,rfl⟩
  go_wp2_with fail
  refine(floor_any _ _ _ (by omega) (by omega) (by omega) (by omega)).mono ?_
  rintro e w' ⟨rfl,rfl⟩
  go_wp2_with fail
  refine(FU.out _).mono ?_
  rintro e w' ⟨rfl,rfl⟩
  go_wp2_with fail
  refine(ceil_any _ _ _ (by omega) (by omega) (by omega) (by omega)).mono ?_
  rintro e w' ⟨rfl,rfl⟩
  go_wp2
  refine bodyPost_ret (by simp[results,Tryz.results126,go_sem, *];first|done|rfl) rfl ?_
  exact⟨ret_ends (by omega) (by omega),blw⟩
set_option maxHeartbeats 2000000 in
theorem Fading_B (lo hi U:Int) (w:World) (h0:0≤lo) (h1:lo≤16777216) (h2:16777216<hi) (h3:hi≤1099511627776) (fu:(∀w,Calls Tryz.prog 188 #[.int .i64 lo] w fun e w'=>e = .returned (.int .i64 U)∧w'=w)) (U0:0≤U) (U1:U≤1073741824) :
  Calls Tryz.prog 126 #[.agg #[.int .i64 lo,.int .i64 hi]] w fun e w'=>e = .returned (.tuple #[.agg #[.int .i64 0,.int .i64 (-(-U/1024))],.int .i64 0])∧Below w.heap.size w w':=by
 have FU:=Lib.hid fu
 clear fu
 by_cases c2 : -(-U/1024)<1048576
 all_goals
  go_enter Tryz.func126,Tryz.ntmps126
  go_wp2_with fail
  refine(checkParts_ok _ _ _ _ (by omega) (by omega) (by omega)).mono ?_
  rintro e w1 ⟨rfl,A0⟩
  have A1:=A0.size
  (try simp at A1)
  have A3:=bl5 A0 (w.heap.size)
  have A2:=bl5 A0 (w.heap.size+1)
  go_wp2_with fail
  refine(FU.out _).mono ?_
  rintro e w' ⟨rfl,rfl⟩
  go_wp2_with fail
  refine(ceil_any _ _ _ (by omega) (by omega) (by omega) (by omega)).mono ?_
  rintro e w' ⟨rfl,rfl⟩
  go_wp2
  refine bodyPost_ret (by simp[results,Tryz.results126,go_sem, *];first|done|rfl) rfl ?_
  exact⟨ret_ends (by omega) (by omega),blw⟩
set_option maxHeartbeats 2000000 in
theorem Fading_C (lo hi:Int) (w:World) (h0:16777216<lo) (h1:lo≤hi) (h3:hi≤1099511627776) :
  Calls Tryz.prog 126 #[.agg #[.int .i64 lo,.int .i64 hi]] w fun e w'=>e = .returned (.tuple #[.agg #[.int .i64 0,.int .i64 1],.int .i64 0])∧Below w.heap.size w w':=by
 go_enter Tryz.func126,Tryz.ntmps126
 go_wp2_with fail
 refine(checkParts_ok _ _ _ _ (by omega) (by omega) (by omega)).mono ?_
 rintro e w1 ⟨rfl,A0⟩
 have A1:=A0.size
 (try simp at A1)
 have A3:=bl5 A0 (w.heap.size)
 have A2:=bl5 A0 (w.heap.size+1)
 go_wp2
 refine bodyPost_ret (by simp[results,Tryz.results126,go_sem, *];first|done|rfl) rfl ?_
 exact⟨rfl,blw⟩
set_option maxHeartbeats 2000000 in
theorem rFading_A (lo hi D U:Int) (w:World) (h0:0≤lo) (h1:lo≤hi) (h2:hi≤16777216) (fd:(∀w,Calls Tryz.prog 233 #[.int .i64 hi,.bool false] w fun e w'=>e = .returned (.int .i64 D)∧w'=w)) (fu:(∀w,Calls Tryz.prog 233 #[.int .i64 lo,.bool true] w fun e w'=>e = .returned (.int .i64 U)∧w'=w)) (D0:0≤D) (D1:D≤1073741824) (U0:0≤U) (U1:U≤1073741824) :
  Calls Tryz.prog 200 #[.agg #[.int .i64 lo,.int .i64 hi]] w fun e w'=>e = .returned (.tuple #[.agg #[.int .i64 (D/1024),.int .i64 (-(-U/1024))],.int .i64 0])∧Below w.heap.size w w':=by
 have FD:=Lib.hid fd
 have FU:=Lib.hid fu
 clear fd fu
 by_cases c1:0<D/1024<;>by_cases c2 : -(-U/1024)<1048576
 all_goals
  go_enter Tryz.func200,Tryz.ntmps200
  go_wp2_with fail
  refine(FD.out _).mono ?_
  rintro e w' ⟨rfl,rfl⟩
  go_wp2_with fail
  refine(bFloor_any _ _ _ (by omega) (by omega) (by omega) (by omega)).mono ?_
  rintro e w' ⟨rfl,rfl⟩
  go_wp2_with fail
  refine(FU.out _).mono ?_
  rintro e w' ⟨rfl,rfl⟩
  go_wp2_with fail
  refine(bCeil_any _ _ _ (by omega) (by omega) (by omega) (by omega)).mono ?_
  rintro e w' ⟨rfl,rfl⟩
  go_wp2
  refine bodyPost_ret (by simp[results,Tryz.results200,go_sem, *];first|done|rfl) rfl ?_
  exact⟨ret_ends (by omega) (by omega),blw⟩
set_option maxHeartbeats 2000000 in
theorem rFading_B (lo hi U:Int) (w:World) (h0:0≤lo) (h1:lo≤16777216) (h2:16777216<hi) (h3:hi≤1099511627776) (fu:(∀w,Calls Tryz.prog 233 #[.int .i64 lo,.bool true] w fun e w'=>e = .returned (.int .i64 U)∧w'=w)) (U0:0≤U) (U1:U≤1073741824) :
  Calls Tryz.prog 200 #[.agg #[.int .i64 lo,.int .i64 hi]] w fun e w'=>e = .returned (.tuple #[.agg #[.int .i64 0,.int .i64 (-(-U/1024))],.int .i64 0])∧Below w.heap.size w w':=by
 have FU:=Lib.hid fu
 clear fu
 by_cases c2 : -(-U/1024)<1048576
 all_goals
  go_enter Tryz.func200,Tryz.ntmps200
  go_wp2_with fail
  refine(FU.out _).mono ?_
  rintro e w' ⟨rfl,rfl⟩
  go_wp2_with fail
  refine(bCeil_any _ _ _ (by omega) (by omega) (by omega) (by omega)).mono ?_
  rintro e w' ⟨rfl,rfl⟩
  go_wp2
  refine bodyPost_ret (by simp[results,Tryz.results200,go_sem, *];first|done|rfl) rfl ?_
  exact⟨ret_ends (by omega) (by omega),blw⟩
set_option maxHeartbeats 2000000 in
theorem rFading_C (lo hi:Int) (w:World) (h0:16777216<lo) (h1:lo≤hi) (h3:hi≤1099511627776) :
  Calls Tryz.prog 200 #[.agg #[.int .i64 lo,.int .i64 hi]] w fun e w'=>e = .returned (.tuple #[.agg #[.int .i64 0,.int .i64 1],.int .i64 0])∧Below w.heap.size w w':=by
 go_enter Tryz.func200,Tryz.ntmps200
 go_wp2
 refine bodyPost_ret (by simp[results,Tryz.results200,go_sem, *];first|done|rfl) rfl ?_
 exact⟨rfl,blw⟩
theorem Fading_any (lo hi:Int) (w:World) (h0:0≤lo) (h1:lo≤hi) (h2:hi≤1099511627776) :
  Calls Tryz.prog 126 #[.agg #[.int .i64 lo,.int .i64 hi]] w fun e w'=>e = .returned (.tuple #[.agg #[.int .i64 (fLo hi),.int .i64 (fHi lo)],.int .i64 0])∧Below w.heap.size w w':=by
 have eb:=ends_bd h0 (show 0≤hi by omega)
 unfold fLo fHi
 by_cases c1:hi≤16777216
 ·have e1:=eb.1 c1
  have e2:=eb.2 (by omega)
  rw[if_pos c1,if_pos (by omega)]
  exact Fading_A lo hi _ _ w h0 h1 c1 (fun w=>fadingDown_any hi w (by omega) c1) (fun w=>fadingUp_any lo w h0 (by omega)) e1.1 e1.2 e2.1 e2.2
 ·rw[if_neg c1]
  by_cases c2:lo≤16777216
  ·have e2:=eb.2 c2
   rw[if_pos c2]
   exact Fading_B lo hi _ w h0 c2 (by omega) h2 (fun w=>fadingUp_any lo w h0 c2) e2.1 e2.2
  ·rw[if_neg c2]
   exact Fading_C lo hi w (by omega) h1 h2
theorem rFading_any (lo hi:Int) (w:World) (h0:0≤lo) (h1:lo≤hi) (h2:hi≤1099511627776) :
  Calls Tryz.prog 200 #[.agg #[.int .i64 lo,.int .i64 hi]] w fun e w'=>e = .returned (.tuple #[.agg #[.int .i64 (fLo hi),.int .i64 (fHi lo)],.int .i64 0])∧Below w.heap.size w w':=by
 have eb:=ends_bd h0 (show 0≤hi by omega)
 unfold fLo fHi
 by_cases c1:hi≤16777216
 ·have e1:=eb.1 c1
  have e2:=eb.2 (by omega)
  rw[if_pos c1,if_pos (by omega)]
  exact rFading_A lo hi _ _ w h0 h1 c1 (fun w=>fade_dn hi w (by omega) c1) (fun w=>fade_up lo w h0 (by omega)) e1.1 e1.2 e2.1 e2.2
 ·rw[if_neg c1]
  by_cases c2:lo≤16777216
  ·have e2:=eb.2 c2
   rw[if_pos c2]
   exact rFading_B lo hi _ w h0 c2 (by omega) h2 (fun w=>fade_up lo w h0 c2) e2.1 e2.2
  ·rw[if_neg c2]
   exact rFading_C lo hi w (by omega) h1 h2
end Go.Proofs.YticobgianbecpaaGreatDoor
