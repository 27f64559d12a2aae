/- Joined: Float Num Leaf Leaf2. -/
import Derived.Laws.ComplexArith
import Derived.Test.YticobgianbecpaaGreatDoorProg
import Derived.WalkKit
import Derived.WalkSpells
import Derived.WalkLawsBesides
import Derived.Handy
import Derived.Lib.Hide
import Derived.Deep.QuietTactic
import Derived.BigQuiet
import Derived.StillTailTactics
import Derived.Deep.RegionWith
namespace Go.Proofs.YticobgianbecpaaGreatDoor
open Go Ieee
def tw (k:Nat):Nat:=2^k
theorem tw_pos (k:Nat):0<tw k:=Nat.two_pow_pos k
theorem tw_add (a b:Nat):tw (a+b)=tw a*tw b:=Nat.pow_add 2 a b
def fv (s:Bool) (m:Nat) (p:Int):Int:=signed s m (p+1074).toNat
abbrev fl (n:Int):Nat:=floatOfInt .f64 n
theorem signed_eq (s:Bool) (m k:Nat):signed s m k=(if s then -1 else 1)*((m:Int)*(tw k:Nat)):=by
 unfold signed tw
 rw[Nat.shiftLeft_eq]
 cases s<;>simp
theorem signed_add (s:Bool) (m k j:Nat):signed s m (k+j)=signed s m k*(tw j:Nat):=by
 rw[signed_eq,signed_eq,tw_add]
 push_cast
 simp only[Int.mul_assoc]
theorem compare_mul (a b c:Int) (h:0<c):compare (a*c) (b*c)=compare a b:=by
 simp only[compare,compareOfLessAndEq]
 have h1:a*c<b*c↔a<b:=⟨fun x=>Int.lt_of_mul_lt_mul_right x (Int.le_of_lt h),fun x=>Int.mul_lt_mul_of_pos_right x h⟩
 have h2:a*c=b*c↔a=b:=⟨fun x=>Int.eq_of_mul_eq_mul_right (by omega) x,fun x=>by rw[x]⟩
 simp only[h1,h2]
theorem order_fv {s t:Bool}{m n:Nat}{i j:Int} (hi : -1074≤i) (hj : -1074≤j) :
  Datum.order (.number s m i) (.number t n j)=some (compare (fv s m i) (fv t n j)):=by
 have e1:(i+1074).toNat=(i-min i j).toNat+(min i j+1074).toNat:=by omega
 have e2:(j+1074).toNat=(j-min i j).toNat+(min i j+1074).toNat:=by omega
 have hp:(0:Int)<(tw (min i j+1074).toNat:Nat):=by
  have:=tw_pos (min i j+1074).toNat
  omega
 unfold fv
 rw[e1,e2,signed_add,signed_add,compare_mul _ _ _ hp]
 rfl
def Whole (d:Datum) (n:Int):Prop:=∃s m p,d = .number s m p ∧ -1074≤p∧fv s m p=n*(tw 1074:Nat)
theorem order_whole {d e:Datum}{a b:Int} (ha:Whole d a) (hb:Whole e b):Datum.order d e=some (compare a b):=by
 obtain⟨s,m,p,rfl,hp,hv⟩:=ha
 obtain⟨t,n,q,rfl,hq,hu⟩:=hb
 rw[order_fv hp hq,hv,hu,compare_mul _ _ _ (by have:=tw_pos 1074;omega)]
theorem cut_gap (n drop:Nat):n/(1 <<< min drop (n.log2+2))=n/2^drop:=by
 rw[Nat.one_shiftLeft]
 by_cases h:drop≤n.log2+2
 ·rw[Nat.min_eq_left h]
 ·have h1:n<2^(n.log2+2):=Nat.lt_trans (Nat.lt_log2_self) (Nat.pow_lt_pow_right (by omega) (by omega))
  have h2:n<2^drop:=Nat.lt_trans h1 (Nat.pow_lt_pow_right (by omega) (by omega))
  rw[Nat.min_eq_right (by omega),Nat.div_eq_of_lt h1,Nat.div_eq_of_lt h2]
theorem cut_zero (neg:Bool) (n drop:Nat):Toward.zero.cut neg n drop=n/tw drop:=by
 unfold Toward.cut
 simp only[cut_gap]
 simp[tw]
theorem shl_tw (m k:Nat):m <<< k=m*tw k:=Nat.shiftLeft_eq m k
theorem toInt_fv (s:Bool) (m:Nat) (p:Int) (hp : -1074≤p) :
  Datum.toInt .zero (.number s m p)=some (if s then -((m*tw (p+1074).toNat/tw 1074:Nat):Int)else((m*tw (p+1074).toNat/tw 1074:Nat):Int)):=by
 unfold Datum.toInt Datum.integral
 simp only[cut_zero,shl_tw]
 have e:m*tw p.toNat/tw (-p).toNat=m*tw (p+1074).toNat/tw 1074:=by
  by_cases h:0≤p
  ·rw[show(p+1074).toNat=p.toNat+1074 from by omega,show(-p).toNat=0 from by omega,tw_add,← Nat.mul_assoc,Nat.mul_div_cancel _ (tw_pos 1074)]
   simp[tw]
  ·rw[show p.toNat=0 from by omega]
   have e1:tw 1074=tw (p+1074).toNat*tw (-p).toNat:=by rw[← tw_add];congr 1;omega
   rw[e1,Nat.mul_comm m,Nat.mul_comm m,Nat.mul_div_mul_left _ _ (tw_pos _)]
   simp[tw]
 rw[e]
 simp[signed]
theorem toInt_whole {d:Datum}{n:Int} (h:Whole d n):d.toInt .zero=some n:=by
 obtain⟨s,m,p,rfl,hp,hv⟩:=h
 rw[toInt_fv s m p hp]
 unfold fv signed at hv
 rw[shl_tw]at hv
 have hB:=tw_pos 1074
 generalize m*tw (p+1074).toNat=M at *
 generalize tw 1074=B at *
 cases s
 ·simp only[Bool.false_eq_true,if_false]at hv ⊢
  congr 1
  have:(M:Int)/B=n:=by rw[hv];exact Int.mul_ediv_cancel _ (by omega)
  rw[← this];simp
 ·simp only[if_true]at hv ⊢
  congr 1
  have e:(M:Int) = -n*B:=by rw[Int.neg_mul];omega
  have:(M:Int)/B = -n:=by rw[e];exact Int.mul_ediv_cancel _ (by omega)
  have e2:((M/B:Nat):Int) = -n:=by rw[← this];simp
  omega
theorem sw_double:double.signWeight=9223372036854775808:=by decide
theorem bi_double:double.binade=4503599627370496:=by decide
theorem ir_double:double.infRung=9218868437227405312:=by decide
theorem lp_double:double.leastPlace = -1074:=by decide
theorem read_word (neg:Bool) (r:Nat) (h1:4503599627370496≤r) (h2:r<9218868437227405312) :
  double.read (double.word neg r) = .number neg (4503599627370496+r%4503599627370496) (-1074+(r/4503599627370496-1:Nat)):=by
 have e0:double.word neg r/9223372036854775808%2=neg.toNat:=by
  unfold Format.word;rw[sw_double];cases neg<;>simp<;>omega
 have e3:double.word neg r%9223372036854775808=r:=by
  unfold Format.word;rw[sw_double];cases neg<;>simp<;>omega
 have e4:(neg.toNat==1)=neg:=by cases neg<;>rfl
 unfold Format.read
 simp only[sw_double,bi_double,ir_double,lp_double,e0,e3,e4]
 rw[if_neg (by omega),if_pos h2]
theorem read_zero (neg:Bool):double.read (double.word neg 0) = .number neg 0 (-1074):=by
 cases neg<;>decide
theorem cut_even_le (neg:Bool) (n drop:Nat):n/2^drop≤Toward.even.cut neg n drop∧Toward.even.cut neg n drop≤n/2^drop+1:=by
 unfold Toward.cut
 simp only[cut_gap]
 exact⟨Nat.le_add_right _ _,Nat.add_le_add_left (Bool.toNat_le _) _⟩
theorem cut_even_dvd (neg:Bool) (n drop:Nat) (h:2^drop∣n):Toward.even.cut neg n drop=n/2^drop:=by
 unfold Toward.cut
 simp only[cut_gap]
 have hd:n%(1 <<< min drop (n.log2+2))=0:=by
  rw[Nat.one_shiftLeft]
  exact Nat.mod_eq_zero_of_dvd (Nat.dvd_trans (Nat.pow_dvd_pow 2 (Nat.min_le_left _ _)) h)
 have hg:0<1 <<< min drop (n.log2+2):=by rw[Nat.one_shiftLeft];exact Nat.two_pow_pos _
 rw[hd]
 generalize 1 <<< min drop (n.log2+2)=g at *
 have e1:decide (g<2*0)=false:=by simp
 have e2:(g==2*0)=false:=by simp;omega
 rw[e1,e2]
 simp
theorem nearest_read (neg:Bool) (mag:Nat) (place:Int) (h0:mag≠0) (hl : -1074≤place+mag.log2-52) (hh:place+mag.log2≤900) :
  ∃m p,double.read (double.nearest neg mag place) = .number neg m p∧place+mag.log2-52≤p∧p≤place+mag.log2-51∧tw 52≤m∧m<tw 53 ∧
   m*tw (p+1074).toNat≤tw (place+mag.log2+1+1074).toNat ∧
   (mag.log2≤52∨tw (mag.log2-52)∣mag → -1074≤place→m*tw (p+1074).toNat=mag*tw (place+1074).toNat):=by
 have hs1:mag<tw (mag.log2+1):=Nat.lt_log2_self
 have hs2:tw mag.log2≤mag:=Nat.log2_self_le h0
 obtain⟨kept,hk⟩:∃kept,kept=Toward.even.cut neg (mag <<< (place-(place+mag.log2-52)).toNat) ((place+mag.log2-52)-place).toNat:=⟨_,rfl⟩
 have hkept:tw 52≤kept∧kept≤tw 53∧(mag.log2≤52∨tw (mag.log2-52)∣mag → -1074≤place→kept*tw (place+mag.log2-52+1074).toNat=mag*tw (place+1074).toNat):=by
  by_cases h:mag.log2≤52
  ·have e1:(place-(place+mag.log2-52)).toNat=52-mag.log2:=by omega
   have e2:((place+mag.log2-52)-place).toNat=0:=by omega
   have e3:kept=mag*tw (52-mag.log2):=by
    rw[hk,e1,e2,cut_even_dvd _ _ _ (by simp),shl_tw];simp
   have e4:tw mag.log2*tw (52-mag.log2)=tw 52:=by rw[← tw_add];congr 1;omega
   have e5:tw (mag.log2+1)*tw (52-mag.log2)=tw 53:=by rw[← tw_add];congr 1;omega
   refine⟨?_,?_,fun _ hp => ?_⟩
   ·rw[e3,← e4];exact Nat.mul_le_mul_right _ hs2
   ·rw[e3,← e5];exact Nat.mul_le_mul_right _ (Nat.le_of_lt hs1)
   ·rw[e3,Nat.mul_assoc,← tw_add];congr 2;omega
  ·have e1:(place-(place+mag.log2-52)).toNat=0:=by omega
   have e2:((place+mag.log2-52)-place).toNat=mag.log2-52:=by omega
   have e3:kept=Toward.even.cut neg mag (mag.log2-52):=by rw[hk,e1,e2];simp
   have e4:tw mag.log2=tw 52*tw (mag.log2-52):=by rw[← tw_add];congr 1;omega
   have e5:tw (mag.log2+1)=tw 53*tw (mag.log2-52):=by rw[← tw_add];congr 1;omega
   have hc:=cut_even_le neg mag (mag.log2-52)
   have hp0:=tw_pos (mag.log2-52)
   rw[← e3]at hc
   change mag/tw (mag.log2-52)≤kept∧kept≤mag/tw (mag.log2-52)+1 at hc
   have l1:tw 52≤mag/tw (mag.log2-52):=by rw[Nat.le_div_iff_mul_le hp0,← e4];exact hs2
   have l2:mag/tw (mag.log2-52)<tw 53:=by rw[Nat.div_lt_iff_lt_mul hp0,← e5];exact hs1
   refine⟨by omega,by omega,fun hd hp => ?_⟩
   have hd':tw (mag.log2-52)∣mag:=by rcases hd with hd|hd;exact absurd hd h;exact hd
   have e6:kept=mag/tw (mag.log2-52):=by rw[e3];exact cut_even_dvd _ _ _ hd'
   rw[e6,show(place+mag.log2-52+1074).toNat=(mag.log2-52)+(place+1074).toNat from by omega,tw_add,← Nat.mul_assoc,Nat.div_mul_cancel hd']
 obtain⟨k1,k2,k3⟩:=hkept
 have t52:tw 52=4503599627370496:=by decide
 have t53:tw 53=9007199254740992:=by decide
 have hN:double.nearest neg mag place=double.word neg ((place+mag.log2-52+1074).toNat*4503599627370496+kept):=by
  unfold Format.nearest
  rw[if_neg h0]
  have hfb:(double.fractionBits:Int)=52:=rfl
  have em:max (place + ↑mag.log2-52) (-1074)=place+mag.log2-52:=by omega
  simp only[hfb,lp_double,em,bi_double,ir_double]
  rw[← hk,Nat.min_eq_left (by omega),show(place + ↑mag.log2-52 - -1074).toNat=(place+mag.log2-52+1074).toNat from by omega]
 have hlast:(place+mag.log2-52+1074).toNat≤1922:=by omega
 have hlast2:((place+mag.log2-52+1074).toNat:Int)=place+mag.log2-52+1074:=by omega
 rw[hN,read_word neg _ (by omega) (by omega)]
 by_cases hc:kept<tw 53
 ·have ed:((place+mag.log2-52+1074).toNat*4503599627370496+kept)/4503599627370496=(place+mag.log2-52+1074).toNat+1:=by omega
  have er:((place+mag.log2-52+1074).toNat*4503599627370496+kept)%4503599627370496=kept-4503599627370496:=by omega
  refine⟨kept,place+mag.log2-52,?_,by omega,by omega,by omega,hc,?_,fun h hp=>k3 h hp⟩
  ·rw[ed,er,show 4503599627370496+(kept-4503599627370496)=kept from by omega,show(-1074:Int)+(((place+mag.log2-52+1074).toNat+1-1:Nat):Int)=place+mag.log2-52 from by omega]
  ·have:tw (place+mag.log2+1+1074).toNat=tw 53*tw (place+mag.log2-52+1074).toNat:=by rw[← tw_add];congr 1;omega
   rw[this];exact Nat.mul_le_mul_right _ k2
 ·have hk2:kept=9007199254740992:=by omega
  have ed:((place+mag.log2-52+1074).toNat*4503599627370496+kept)/4503599627370496=(place+mag.log2-52+1074).toNat+2:=by omega
  have er:((place+mag.log2-52+1074).toNat*4503599627370496+kept)%4503599627370496=0:=by omega
  have ek:tw 52*tw (place+mag.log2-51+1074).toNat=kept*tw (place+mag.log2-52+1074).toNat:=by
   rw[show kept=tw 53 from by omega,← tw_add,← tw_add];congr 1;omega
  refine⟨tw 52,place+mag.log2-51,?_,by omega,by omega,by omega,by omega,?_,fun h hp=>by rw[ek];exact k3 h hp⟩
  ·rw[ed,er,t52,show(-1074:Int)+(((place+mag.log2-52+1074).toNat+2-1:Nat):Int)=place+mag.log2-51 from by omega]
  ·rw[← tw_add]
   have:(place+mag.log2+1+1074).toNat=52+(place+mag.log2-51+1074).toNat:=by omega
   rw[this];exact Nat.le_refl _
theorem fl_zero:fl 0=0:=by decide
theorem whole_fl (n:Int) (h1 : -9007199254740992≤n) (h2:n≤9007199254740992):Whole (double.read (fl n)) n:=by
 by_cases h0:n=0
 ·subst h0
  rw[fl_zero]
  exact⟨false,0, -1074,read_zero false,by omega,by unfold fv signed;rw[Int.zero_mul];rfl⟩
 ·have hm:n.natAbs≠0:=by omega
  have hlt:n.natAbs.log2≤53:=by
   have:n.natAbs.log2<54:=(Nat.log2_lt hm).2 (by omega)
   omega
  obtain⟨m,p,hr,p1,p2,_,_,_,he⟩:=nearest_read (n<0) n.natAbs 0 hm (by omega) (by omega)
  have hd:n.natAbs.log2≤52∨tw (n.natAbs.log2-52)∣n.natAbs:=by
   by_cases h:n.natAbs.log2≤52
   ·exact .inl h
   ·have h53:n.natAbs.log2=53:=by omega
    have:=Nat.log2_self_le hm
    rw[h53]at this
    right
    rw[h53]
    have:n.natAbs=9007199254740992:=by omega
    rw[this]
    exact⟨4503599627370496,by decide⟩
  have hv:=he hd (by omega)
  refine⟨_,m,p,hr,by omega,?_⟩
  unfold fv
  rw[signed_eq]
  have hv':((m:Int)*(tw (p+1074).toNat:Nat))=(n.natAbs:Int)*(tw 1074:Nat):=by
   rw[show(0+1074:Int).toNat=1074 from rfl]at hv
   rw[← Int.natCast_mul,hv,Int.natCast_mul]
  rw[hv']
  generalize ((tw 1074:Nat):Int)=B
  by_cases hn:n<0
  ·rw[if_pos (by simpa using hn),show(n.natAbs:Int) = -n from by omega,Int.neg_mul,Int.neg_mul,Int.one_mul,Int.neg_neg]
  ·rw[if_neg (by simpa using hn),show(n.natAbs:Int)=n from by omega,Int.one_mul]
theorem order_fl (a b:Int) (a1 : -9007199254740992≤a) (a2:a≤9007199254740992) (b1 : -9007199254740992≤b) (b2:b≤9007199254740992) :
  FloatKind.f64.format.order (fl a) (fl b)=some (compare a b) :=
 order_whole (whole_fl a a1 a2) (whole_fl b b1 b2)
theorem int_fl (n:Int) (h1 : -9007199254740992≤n) (h2:n≤9007199254740992):floatToIntVal .f64 (fl n) .i64=some n:=by
 unfold floatToIntVal
 have:(FloatKind.f64.decode (fl n)).toInt .zero=some n:=toInt_whole (whole_fl n h1 h2)
 rw[this]
 simp only
 rw[if_pos]
 constructor
 ·show(IntKind.i64.min)≤n;have:IntKind.i64.min = -9223372036854775808:=by decide
  omega
 ·show n≤(IntKind.i64.max);have:IntKind.i64.max=9223372036854775807:=by decide
  omega
theorem fl_lt (n:Int):fl n<18446744073709551616:=double.write_lt (.number (n<0) n.natAbs 0)
theorem ord_lt {a b:Int} (a1 : -9007199254740992≤a) (a2:a≤9007199254740992) (b1 : -9007199254740992≤b) (b2:b≤9007199254740992) (h:a<b):FloatKind.f64.format.order (fl a) (fl b)=some .lt:=by
 rw[order_fl a b a1 a2 b1 b2];congr 1;simp only[compare,compareOfLessAndEq];rw[if_pos h]
theorem ord_gt {a b:Int} (a1 : -9007199254740992≤a) (a2:a≤9007199254740992) (b1 : -9007199254740992≤b) (b2:b≤9007199254740992) (h:b<a):FloatKind.f64.format.order (fl a) (fl b)=some .gt:=by
 rw[order_fl a b a1 a2 b1 b2];congr 1;simp only[compare,compareOfLessAndEq];rw[if_neg (by omega),if_neg (by omega)]
theorem ord_eq {a:Int} (a1 : -9007199254740992≤a) (a2:a≤9007199254740992):FloatKind.f64.format.order (fl a) (fl a)=some .eq:=by
 rw[order_fl a a a1 a2 a1 a2];congr 1;simp only[compare,compareOfLessAndEq];rw[if_neg (by omega)];simp
theorem ord_whole {a b:Int}{k:Nat} (a1 : -9007199254740992≤a) (a2:a≤9007199254740992) (hk:Whole (double.read k) b):FloatKind.f64.format.order (fl a) k=some (compare a b):=order_whole (whole_fl a a1 a2) hk
theorem whole_of_num {k:Nat}{s:Bool}{m p:Nat} (h:double.read k = .number s m p):Whole (double.read k) ((if s then -1 else 1)*(m*tw p)):=by
 refine⟨s,m,p,h,by omega,?_⟩
 unfold fv
 rw[signed_eq,show((p:Int)+1074).toNat=p+1074 from by omega,tw_add,Int.natCast_mul,Int.mul_assoc,Int.mul_assoc]
theorem fl_num (n:Int) (h0:n≠0) (h1 : -9007199254740992≤n) (h2:n≤9007199254740992):∃m p,double.read (fl n) = .number (decide (n<0)) m p ∧ -1074≤p∧m*tw (p+1074).toNat=n.natAbs*tw 1074:=by
 obtain⟨s,m,p,hr,hp,hv⟩:=whole_fl n h1 h2
 unfold fv at hv
 rw[signed_eq]at hv
 have hB:=tw_pos 1074
 have hM:=Int.natCast_nonneg (m*tw (p+1074).toNat)
 rw[Int.natCast_mul]at hM
 generalize hT:((tw 1074:Nat):Int)=T at *
 have hT0:0<T:=by omega
 have key:s=decide (n<0)∧((m:Int)*(tw (p+1074).toNat:Nat))=n.natAbs*T:=by
  rcases Int.lt_or_gt_of_ne h0 with hn|hn
  ·have hneg:n*T<0:=Int.mul_neg_of_neg_of_pos hn hT0
   cases s
   ·simp only[Bool.false_eq_true,if_false,Int.one_mul]at hv;omega
   ·refine⟨by simp[hn],?_⟩
    simp only[if_true]at hv
    rw[show(n.natAbs:Int) = -n from by omega,Int.neg_mul]
    omega
  ·have hpos:0<n*T:=Int.mul_pos hn hT0
   cases s
   ·refine⟨by simp;omega,?_⟩
    simp only[Bool.false_eq_true,if_false,Int.one_mul]at hv
    rw[show(n.natAbs:Int)=n from by omega]
    exact hv
   ·simp only[if_true]at hv;omega
 refine⟨m,p,by rw[hr,key.1],hp,?_⟩
 have:=key.2
 rw[← hT,← Int.natCast_mul,← Int.natCast_mul]at this
 exact Int.ofNat.inj this
theorem fl_trunc (n:Int) (h1 : -9007199254740992≤n) (h2:n≤9007199254740992):FloatKind.f64.encode ((FloatKind.f64.decode (fl n)).integral .zero)=fl n:=by
 by_cases h0:n=0
 ·subst h0;decide
 ·obtain⟨m,p,hr,hp,hv⟩:=fl_num n h0 h1 h2
  show double.write ((double.read (fl n)).integral .zero)=double.nearest (decide (n<0)) n.natAbs 0
  rw[hr]
  have ht:=toInt_fv (decide (n<0)) m p hp
  unfold Datum.integral
  simp only[cut_zero,shl_tw]
  have e:m*tw p.toNat/tw (-p).toNat=n.natAbs:=by
   by_cases h:0≤p
   ·rw[show(p+1074).toNat=p.toNat+1074 from by omega,tw_add,← Nat.mul_assoc]at hv
    rw[show(-p).toNat=0 from by omega,Nat.eq_of_mul_eq_mul_right (tw_pos 1074) hv]
    simp[tw]
   ·rw[show p.toNat=0 from by omega]
    have e1:tw 1074=tw (p+1074).toNat*tw (-p).toNat:=by rw[← tw_add];congr 1;omega
    rw[e1,Nat.mul_comm (tw (p+1074).toNat),← Nat.mul_assoc]at hv
    have:=Nat.eq_of_mul_eq_mul_right (tw_pos (p+1074).toNat) hv
    rw[this,show tw 0=1 from rfl,Nat.mul_one,Nat.mul_div_cancel _ (tw_pos _)]
  rw[e];rfl
theorem fl_abs (n:Int):fl n%9223372036854775808=fl (n.natAbs:Nat):=by
 have hw:∀s mag,double.nearest s mag 0%9223372036854775808=double.nearest false mag 0:=by
  intro s mag
  unfold Format.nearest
  split
  ·unfold Format.word;rw[sw_double];cases s<;>rfl
  ·dsimp only
   have:∀r,double.word s (min r double.infRung)%9223372036854775808=double.word false (min r double.infRung):=by
    intro r
    unfold Format.word;rw[sw_double,ir_double];cases s<;>simp<;>omega
   have ce:Toward.even.cut s=Toward.even.cut false:=rfl
   rw[ce]
   exact this _
 show double.nearest (decide (n<0)) n.natAbs 0%9223372036854775808=double.nearest (decide (((n.natAbs:Nat):Int)<0)) ((n.natAbs:Nat):Int).natAbs 0
 rw[hw]
 congr 1
theorem rootFrom_sq (n:Nat):∀(t r:Nat),r*r≤n→Datum.rootFrom n t r*Datum.rootFrom n t r≤n:=by
 intro t
 induction t with
 | zero=>intro r h;exact h
 | succ t ih =>
  intro r h
  unfold Datum.rootFrom
  simp only
  split
  ·exact ih _ (by assumption)
  ·exact ih _ h
theorem tw_bound (k e:Nat) (h:e≤31+k):tw e≤2147483648*tw k:=by
 have a1:tw e≤tw (31+k):=Nat.pow_le_pow_right (by omega) h
 have a2:tw (31+k)=2147483648*tw k:=by rw[tw_add];rfl
 omega
theorem sqrt_fl (n:Int) (h1:0≤n) (h2:n≤1152921504606846976) :
  ∃b s,FloatKind.f64.format.sqrt (fl n)=some b∧floatToIntVal .f64 b .i64=some s∧0≤s∧s≤2147483648:=by
 by_cases h0:n=0
 ·subst h0
  refine⟨0,0,by decide,?_,by omega,by omega⟩
  exact int_fl 0 (by omega) (by omega)
 ·have hm:n.natAbs≠0:=by omega
  have hlt:n.natAbs.log2≤60:=by
   have:n.natAbs.log2<61:=(Nat.log2_lt hm).2 (by omega)
   omega
  obtain⟨m,p,hr,p1,p2,m1,m2,_,_⟩:=nearest_read (n<0) n.natAbs 0 hm (by omega) (by omega)
  have hn:decide (n<0)=false:=by simp;omega
  have hm0:m≠0:=by have:=tw_pos 52;omega
  have hml:m.log2=52:=by
   have a1:m.log2<53:=(Nat.log2_lt hm0).2 m2
   have a2:52≤m.log2:=(Nat.le_log2 hm0).2 m1
   omega
  have hfl:fl n=double.nearest (decide (n<0)) n.natAbs 0:=rfl
  have hr':double.read (fl n) = .number false m p:=by rw[hfl,hr,hn]
  generalize hmore:(56+((p-(56:Nat))%2).toNat)=more
  have hmore2:more≤57:=by omega
  obtain⟨W,B,hroot,hW⟩:∃W B:Nat,Datum.root 54 (.number false m p)=some (.number false (2*W+B) ((p-more)/2-1))∧W*W≤m*tw more∧B≤1:=by
   refine⟨Datum.rootFrom (m <<< more) ((m <<< more).log2/2+1) 0,(Datum.rootFrom (m <<< more) ((m <<< more).log2/2+1) 0*Datum.rootFrom (m <<< more) ((m <<< more).log2/2+1) 0 != m <<< more).toNat,?_,?_,?_⟩
   ·unfold Datum.root
    simp only[if_neg hm0,hml,Bool.false_eq_true,if_false]
    rw[show 2*54-52=56 from rfl,hmore]
   ·rw[← shl_tw];exact rootFrom_sq _ _ _ (Nat.zero_le _)
   ·exact Bool.toNat_le _
  obtain⟨hW,hB⟩:=hW
  have hWlt:W<36028797018963968:=by
   have a1:m*tw more<tw 53*tw 57:=by
    have:tw more≤tw 57:=Nat.pow_le_pow_right (by omega) hmore2
    calc m*tw more<tw 53*tw more:=Nat.mul_lt_mul_of_pos_right m2 (tw_pos _)
     _≤_:=Nat.mul_le_mul_left _ this
   have a2:tw 53*tw 57=36028797018963968*36028797018963968:=by decide
   rcases Nat.lt_or_ge W 36028797018963968 with h|h
   ·exact h
   ·have:=Nat.mul_le_mul h h
    omega
  have hs:FloatKind.f64.format.sqrt (fl n)=some (double.write (.number false (2*W+B) ((p-more)/2-1))):=by
   show((double.read (fl n)).root (52+2)).map double.write=_
   rw[hr',hroot];rfl
  by_cases hz:2*W+B=0
  ·refine⟨_,0,hs,?_,by omega,by omega⟩
   rw[hz]
   show floatToIntVal .f64 (double.nearest false 0 _) .i64=some 0
   unfold Format.nearest
   rw[if_pos rfl]
   have:double.word false 0=fl 0:=by rw[fl_zero];rfl
   rw[this]
   exact int_fl 0 (by omega) (by omega)
  ·have hL:(2*W+B).log2≤55:=by
    have:(2*W+B).log2<56:=(Nat.log2_lt hz).2 (by omega)
    omega
   obtain⟨m',p',hr2,q1,q2,_,_,hle,_⟩:=nearest_read false (2*W+B) ((p-more)/2-1) hz (by omega) (by omega)
   have hti:=toInt_fv false m' p' (by omega)
   simp only[Bool.false_eq_true,if_false]at hti
   have hdiv:m'*tw (p'+1074).toNat/tw 1074≤2147483648:=by
    have b1:=tw_bound 1074 ((p-more)/2-1+(2*W+B).log2+1+1074).toNat (by omega)
    have b0:=tw_pos 1074
    generalize tw 1074=T at *
    exact Nat.div_le_of_le_mul (by rw[Nat.mul_comm T];omega)
   refine⟨_,((m'*tw (p'+1074).toNat/tw 1074:Nat):Int),hs,?_,Int.natCast_nonneg _,Int.ofNat_le.2 hdiv⟩
   unfold floatToIntVal
   have e:(FloatKind.f64.decode (double.write (.number false (2*W+B) ((p-more)/2-1)))).toInt .zero=some ((m'*tw (p'+1074).toNat/tw 1074:Nat):Int):=by
    show(double.read (double.nearest false (2*W+B) ((p-more)/2-1))).toInt .zero=_
    rw[hr2];exact hti
   rw[e]
   simp only
   clear e hti
   generalize m'*tw (p'+1074).toNat/tw 1074=s at *
   rw[if_pos]
   constructor
   ·have:IntKind.i64.min = -9223372036854775808:=by decide
    omega
   ·have:IntKind.i64.max=9223372036854775807:=by decide
    omega
end Go.Proofs.YticobgianbecpaaGreatDoor
namespace Go.Proofs.YticobgianbecpaaGreatDoor
theorem floor_low {n b:Int} (hb:0<b) (h:n.tmod b<0):n.tdiv b-1=n/b:=by
 have h1:=Int.mul_tdiv_add_tmod n b
 have h3 : -b<n.tmod b:=by
  have:=Int.tmod_lt_of_pos (-n) hb
  rw[Int.neg_tmod]at this
  omega
 have:=((Int.ediv_emod_unique (a:=n) (b:=b) (r:=n.tmod b+b) (q:=n.tdiv b-1) hb).2 ⟨by rw[Int.mul_sub];omega,by omega,by omega⟩).1
 exact this.symm
theorem floor_high {n b:Int} (hb:0<b) (h:0≤n.tmod b):n.tdiv b=n/b:=by
 have h1:=Int.mul_tdiv_add_tmod n b
 have h3:=Int.tmod_lt_of_pos n hb
 exact(((Int.ediv_emod_unique (a:=n) (b:=b) (r:=n.tmod b) (q:=n.tdiv b) hb).2 ⟨by omega,h,h3⟩).1).symm
theorem tdiv_bounds (n b:Int) (hb:0<b) : -(n.natAbs:Int)≤n.tdiv b∧n.tdiv b≤(n.natAbs:Int):=by
 have key:∀m:Int,0≤m→0≤m.tdiv b∧m.tdiv b≤m:=fun m hm=>by
  rw[Int.tdiv_eq_ediv_of_nonneg hm]
  exact⟨Int.ediv_nonneg hm (by omega),Int.ediv_le_self b hm⟩
 by_cases h:0≤n
 ·have:=key n h;omega
 ·have:=key (-n) (by omega);rw[Int.neg_tdiv]at this;omega
theorem ediv_lo {n b lo:Int} (hb:1≤b) (h:lo≤n) (h0:lo≤0):lo≤n/b:=by
 rw[Int.le_ediv_iff_mul_le (by omega)]
 have:lo*b≤lo*1:=Int.mul_le_mul_of_nonpos_left h0 hb
 omega
theorem ediv_hi {n b hi:Int} (hb:1≤b) (h:n≤hi) (h0:0≤hi):n/b≤hi:=by
 rw[Int.ediv_le_iff_le_mul (by omega)]
 have:hi*1≤hi*b:=Int.mul_le_mul_of_nonneg_left hb h0
 omega
def rootBits (n:Nat):Nat→Nat→Nat
 | 0,r=>r
 | k+1,r=>rootBits n k (if (r+2^k)*(r+2^k)≤n then r+2^k else r)
@[irreducible] def rt (n:Int):Int:=(rootBits n.toNat 31 0:Nat)
@[irreducible] def rtu (n:Int):Int:=if rt n*rt n<n then rt n+1 else rt n
theorem rootBits_spec (n:Nat):∀(k r:Nat),r*r≤n→n<(r+2^k)*(r+2^k) →
  rootBits n k r*rootBits n k r≤n∧n<(rootBits n k r+1)*(rootBits n k r+1):=by
 intro k
 induction k with
 | zero=>intro r h1 h2;exact⟨h1,by simpa[rootBits]using h2⟩
 | succ k ih =>
  intro r h1 h2
  unfold rootBits
  split
  ·rename_i h
   refine ih _ h ?_
   have:r+2^k+2^k=r+2^(k+1):=by rw[Nat.pow_succ];omega
   rw[this];exact h2
  ·rename_i h
   exact ih _ h1 (by omega)
theorem rt_nonneg (n:Int):0≤rt n:=by unfold rt;exact Int.natCast_nonneg _
theorem rt_spec {n:Int} (h0:0≤n) (h1:n<4611686018427387904):rt n*rt n≤n∧n<(rt n+1)*(rt n+1):=by
 have:=rootBits_spec n.toNat 31 0 (by omega) (by simp;omega)
 unfold rt
 generalize rootBits n.toNat 31 0=r at *
 obtain⟨a,b⟩:=this
 have e1:((r*r:Nat):Int)=(r:Int)*r:=by simp
 have e2:(((r+1)*(r+1):Nat):Int)=((r:Int)+1)*(r+1):=by simp
 constructor
 ·rw[← e1];omega
 ·rw[← e2];omega
theorem sq_lt_sq {a b:Int} (ha:0≤a) (h:a<b):a*a<b*b:=by
 have h1:a*a≤a*b:=Int.mul_le_mul_of_nonneg_left (by omega) ha
 have h2:a*b<b*b:=Int.mul_lt_mul_of_pos_right h (by omega)
 omega
theorem sq_le_sq {a b:Int} (ha:0≤a) (h:a≤b):a*a≤b*b:=Int.mul_le_mul h h ha (by omega)
theorem lt_of_sq {a b:Int} (hb:0≤b) (h:a*a<b*b):a<b:=by
 rcases Int.lt_or_le a b with h1|h1
 ·exact h1
 ·have:=sq_le_sq hb h1;omega
theorem le_of_sq {a b:Int} (hb:0≤b) (h:a*a≤b*b):a≤b:=by
 rcases Int.lt_or_le b a with h1|h1
 ·have:=sq_lt_sq hb h1;omega
 ·exact h1
theorem rt_unique {n r:Int} (h0:0≤n) (h1:n<4611686018427387904) (hr:0≤r) (a:r*r≤n) (b:n<(r+1)*(r+1)):r=rt n:=by
 have⟨c,d⟩:=rt_spec h0 h1
 have hn:=rt_nonneg n
 have e1:r<rt n+1:=lt_of_sq (by omega) (by omega)
 have e2:rt n<r+1:=lt_of_sq (by omega) (by omega)
 omega
theorem rt_le {n b:Int} (h0:0≤n) (h1:n<4611686018427387904) (hb:0≤b) (h:n≤b*b):rt n≤b:=by
 have⟨c,_⟩:=rt_spec h0 h1
 exact le_of_sq hb (by omega)
theorem rt_lt31 {n:Int} (h0:0≤n) (h1:n<4611686018427387904):rt n<2147483648:=by
 have⟨c,_⟩:=rt_spec h0 h1
 exact lt_of_sq (by omega) (by omega)
theorem rtu_bounds {n:Int} : rt n≤rtu n∧rtu n≤rt n+1:=by
 unfold rtu;split<;>omega
end Go.Proofs.YticobgianbecpaaGreatDoor
namespace Go.Proofs.YticobgianbecpaaGreatDoor
open Go.RowKit
section
variable (P:Program) (w:World) (a:Addr) (m:Mode)
@[go_sem] theorem run_store_float (k:FloatKind) (b:Nat):(store a (.float k b) m).run P w=stored P w a (.float k b) m:=run_store P w a _ m rfl
@[go_sem] theorem run_store_complex (k:FloatKind) (b c:Nat):(store a (.complex k b c) m).run P w=stored P w a (.complex k b c) m:=run_store P w a _ m rfl
end
theorem ret_int {k:IntKind}{a b:Int} (h:a=b):Ending.returned (.int k a) = .returned (.int k b):=by rw[h]
set_option maxHeartbeats 400000 in
theorem floor_any (n b:Int) (w:World) (h1 : -9223372036854775808≤n) (h2:n≤9223372036854775807) (h3:1≤b) (h4:b≤9223372036854775807) :
  Calls Tryz.prog 110 #[.int .i64 n,.int .i64 b] w fun e w'=>e = .returned (.int .i64 (n/b))∧w'=w:=by
 go_enter Tryz.func110,Tryz.ntmps110
 go_wp2
 ·have h:n.tmod b<0:=by assumption
  have hb:=tdiv_bounds n b (by omega)
  have e:=floor_low (by omega) h
  have hw:wrap64 (n.tdiv b-1)=n/b:=by rw[e];exact IntWalk.wrap64_in _ ⟨ediv_lo h3 h1 (by omega),ediv_hi h3 h2 (by omega)⟩
  go_ret
  exact⟨ret_int hw,rfl⟩
 ·have h:0≤n.tmod b:=by assumption
  go_ret
  exact⟨ret_int (floor_high (by omega) h),rfl⟩
set_option maxHeartbeats 400000 in
theorem ceil_any (n b:Int) (w:World) (h1 : -9223372036854775807≤n) (h2:n≤9223372036854775807) (h3:1≤b) (h4:b≤9223372036854775807) :
  Calls Tryz.prog 111 #[.int .i64 n,.int .i64 b] w fun e w'=>e = .returned (.int .i64 (-(-n/b)))∧w'=w:=by
 have hb : -9223372036854775807 ≤ -n/b ∧ -n/b≤9223372036854775807:=⟨ediv_lo h3 (by omega) (by omega),ediv_hi h3 (by omega) (by omega)⟩
 go_enter Tryz.func111,Tryz.ntmps111
 go_wp2_with (go_at_call 110;refine(floor_any _ _ _ (by omega) (by omega) (by omega) (by omega)).mono ?_;rintro e w' ⟨rfl,rfl⟩)
 go_ret
 exact⟨rfl,rfl⟩
theorem run_sqrt (x b:Nat) (w:World) (h:FloatKind.f64.format.sqrt x=some b) :
  (callFunc 246 #[.float .f64 x]).run Tryz.prog w = .ok (.value (.float .f64 b)) w:=by
 rw[run_callFunc_extern (P:=Tryz.prog) (f:=246) (fn:=Tryz.f246) (e:=Extern.MathSqrt.sqrt) (by kernel_rfl) (by kernel_rfl) (by kernel_rfl) (by kernel_rfl) (by kernel_rfl)]
 have e:Extern.MathSqrt.sqrt #[.float .f64 x]=pure (.float .f64 b):=by
  show(match FloatKind.f64.format.sqrt x with|some r=>pure (Value.float .f64 r)|none=>_)=_
  rw[h]
 rw[e];rfl
set_option maxHeartbeats 400000 in
theorem sqrt_any (x b:Nat) (w:World) (h:FloatKind.f64.format.sqrt x=some b) :
  Calls Tryz.prog 218 #[.float .f64 x] w fun e w'=>e = .returned (.float .f64 b)∧w'=w:=by
 have hx:=fun w=>run_sqrt x b w h
 clear h
 go_enter Tryz.func218,Tryz.ntmps218
 go_wp2
 go_ret
 exact⟨rfl,rfl⟩
set_option maxHeartbeats 400000 in
theorem root_any (n:Int) (w:World) (h1:0≤n) (h2:n≤1152921504606846976) :
  Calls Tryz.prog 165 #[.int .i64 n] w fun e w'=>e = .returned (.int .i64 (rt n))∧w'=w:=by
 obtain⟨b,s,hs,hi,s0,s1⟩:=sqrt_fl n h1 h2
 have hc:=fun(w:World)=>run_convert_float_int (P:=Tryz.prog) w 199 3 .f64 .i64 b s (by kernel_rfl) (by kernel_rfl) hi
 have Hi:=Lib.hid hi
 clear hi
 go_enter Tryz.func165,Tryz.ntmps165
 go_wp2_with (go_at_call 218;refine(sqrt_any _ _ _ hs).mono ?_;rintro e w' ⟨rfl,rfl⟩)
 go_loop [3] (fun r=>∃k:Int,0≤k∧k≤2147483648∧r = .int .i64 k) (fun r=>(intOf r).toNat)
 case atStart=>exact⟨s,s0,s1,rfl⟩
 case round =>
  obtain⟨k,k0,k1,rfl⟩:=hrel
  have q0:0≤k*k:=Int.mul_nonneg k0 k0
  have q1:k*k≤4611686018427387904:=sq_le_sq k0 k1
  by_cases hlt:n<k*k
  ·go_wp2
   go_round
   case rel=>exact⟨k-1,by have:k≠0:=by rintro rfl;omega
                          omega,by omega,rfl⟩
   case measure=>have:k≠0:=by rintro rfl;omega
                 simp[intOf];omega
  ·go_wp2
   go_loop [3] (fun r=>∃j:Int,0≤j∧j*j≤n∧r = .int .i64 j) (fun r=>(n-intOf r).toNat)
   case atStart=>exact⟨k,k0,by omega,rfl⟩
   case round =>
    obtain⟨j,j0,j1,rfl⟩:=hrel
    have j2:j≤1073741824:=le_of_sq (by omega) (by omega)
    have q2:0≤(j+1)*(j+1):=Int.mul_nonneg (by omega) (by omega)
    have q3:(j+1)*(j+1)≤1073741825*1073741825:=sq_le_sq (by omega) (by omega)
    have q4:j+1≤(j+1)*(j+1):=by have:=Int.mul_le_mul_of_nonneg_left (show(1:Int)≤j+1 by omega) (show 0≤j+1 by omega);omega
    by_cases hle:(j+1)*(j+1)≤n
    ·go_wp2
     go_round
     case rel=>exact⟨j+1,by omega,hle,rfl⟩
     case measure=>simp[intOf];omega
    ·go_wp2
     go_ret
     exact⟨ret_int (rt_unique h1 (by omega) j0 j1 (by omega)),rfl⟩
set_option maxHeartbeats 400000 in
theorem rootUp_any (n:Int) (w:World) (h1:0≤n) (h2:n≤1152921504606846976) :
  Calls Tryz.prog 168 #[.int .i64 n] w fun e w'=>e = .returned (.int .i64 (rtu n))∧w'=w:=by
 have r0:=rt_nonneg n
 have r1:=rt_lt31 h1 (by omega)
 have r2:=(rt_spec h1 (by omega)).1
 have r3:0≤rt n*rt n:=Int.mul_nonneg r0 r0
 have hu:∀k,k=rtu n→Ending.returned (.int .i64 k) = .returned (.int .i64 (rtu n)):=fun k hk=>by rw[hk]
 have Hu:=Lib.hid hu
 clear hu
 by_cases h:rt n*rt n<n
 all_goals
  go_enter Tryz.func168,Tryz.ntmps168
  go_wp2_with (go_at_call 165;refine(root_any _ _ (by omega) (by omega)).mono ?_;rintro e w' ⟨rfl,rfl⟩)
  go_ret
  exact⟨Hu.out _ (by unfold rtu;first|rw[if_pos h]|rw[if_neg (by omega)]),rfl⟩
end Go.Proofs.YticobgianbecpaaGreatDoor
namespace Go.Proofs.YticobgianbecpaaGreatDoor
open Go.RowKit
theorem bl_alloc {w w':World} (h:Below w.heap.size w w') (o:Obj):Below w.heap.size w (w'.alloc o):=h.alloc h.size o
theorem bl_drew {w w':World} (h:Below w.heap.size w w'):Below w.heap.size w w'.drew:=h.drew
theorem bl_drewN {w w':World}{n:Nat} (h:Below w.heap.size w w'):Below w.heap.size w (w'.drewN n):=by
 induction n with
 | zero=>exact h
 | succ n ih=>exact ih.drew
theorem bl_setCell {w w':World}{p:Addr} (h:Below w.heap.size w w') (hp:w.heap.size≤p.block) (u:Value):Below w.heap.size w (w'.setCell p u):=h.setCell hp u
theorem bl_call {w w1 w':World} (h:Below w.heap.size w w1) (hb:Below w1.heap.size w1 w'):Below w.heap.size w w':=h.trans (hb.mono h.size)
theorem blw {N:Nat}{w w':World} (h:Below N w w':=by repeat' (first|(with_reducible exact Below.refl _ _)|(with_reducible assumption)|(with_reducible refine bl_alloc ?_ _)|(with_reducible refine bl_drew ?_)|(with_reducible refine bl_drewN ?_)|(with_reducible refine bl_setCell ?_ ?_ _)|(with_reducible refine bl_call ?_ (by with_reducible assumption))|omega|(simp;done)|(simp;omega))):Below N w w':=h
theorem lto {a b:Nat} (h:a<b:=by first|omega|(simp;done)|(simp;omega)):a<b:=h
theorem blc {N:Nat}{w w':World} (h:Below N w w') (b:Nat) (hb:b<N:=by first|omega|(simp;done)|(simp;omega)):∀o,w'.cell? ⟨b,o,none⟩=w.cell? ⟨b,o,none⟩:=fun o=>h.cell (p:=⟨b,o,none⟩) hb
theorem blf {N:Nat}{w w':World} (h:Below N w w') (b:Nat) (hb:b<N:=by first|omega|(simp;done)|(simp;omega)):∀o,w'.frozen? ⟨b,o,none⟩=w.frozen? ⟨b,o,none⟩:=fun o=>h.frozen (p:=⟨b,o,none⟩) hb
theorem bl5 {w w':World} (h:Below w.heap.size w w') (b:Nat) (hb:b<w.heap.size:=by first|omega|(simp;done)|(simp;omega)):b<w'.heap.size∧b<w'.heap.size+1∧b<w'.heap.size+1+1∧(∀o,w'.cell? ⟨b,o,none⟩=w.cell? ⟨b,o,none⟩)∧(∀o,w'.frozen? ⟨b,o,none⟩=w.frozen? ⟨b,o,none⟩) :=
 have k:=Nat.lt_of_lt_of_le hb h.size
 ⟨k,Nat.lt_succ_of_lt k,Nat.lt_succ_of_lt (Nat.lt_succ_of_lt k),fun o=>h.cell (p:=⟨b,o,none⟩) hb,fun o=>h.frozen (p:=⟨b,o,none⟩) hb⟩
theorem ret_pair_ib {k:IntKind}{a b:Int}{c d:Bool} (h:a=b) (h2:c=d):Ending.returned (.tuple #[.int k a,.bool c]) = .returned (.tuple #[.int k b,.bool d]):=by rw[h,h2]
theorem tmod_ne (n b:Int):(n.tmod b != 0)=(n%b != 0):=by
 rw[Bool.eq_iff_iff]
 simp only[bne_iff_ne,ne_eq]
 rw[← Int.dvd_iff_tmod_eq_zero,← Int.dvd_iff_emod_eq_zero]
set_option maxHeartbeats 400000 in
theorem within_any (n lo hi:Int) (w:World) :
  Calls Tryz.prog 170 #[.int .i64 n,.int .i64 lo,.int .i64 hi] w fun e w'=>e = .returned (.bool (decide (lo≤n)&&decide (n≤hi)))∧w'=w:=by
 by_cases h1:lo≤n<;>by_cases h2:n≤hi
 all_goals
  go_enter Tryz.func170,Tryz.ntmps170
  go_wp2
  go_ret
  simp[h1,h2]
set_option maxHeartbeats 400000 in
theorem small_any (n m:Int) (w:World) (h1 : -9223372036854775807≤m) (h2:m≤9223372036854775807) :
  Calls Tryz.prog 164 #[.int .i64 n,.int .i64 m] w fun e w'=>e = .returned (.bool (decide (-m≤n)&&decide (n≤m)))∧w'=w:=by
 go_enter Tryz.func164,Tryz.ntmps164
 go_wp2_with (go_at_call 170;refine(within_any _ _ _ _).mono ?_;rintro e w' ⟨rfl,rfl⟩)
 go_ret
 exact⟨rfl,rfl⟩
@[irreducible] def b1 (b:Bool):Int:=if b then 1 else 0
theorem b1_bd (b:Bool):0≤b1 b∧b1 b≤1:=by unfold b1;cases b<;>decide
theorem b1_true:b1 true=1:=by unfold b1;rfl
theorem b1_false:b1 false=0:=by unfold b1;rfl
set_option maxHeartbeats 400000 in
theorem one_any (b:Bool) (w:World) :
  Calls Tryz.prog 192 #[.bool b] w fun e w'=>e = .returned (.int .i64 (b1 b))∧w'=w:=by
 cases b
 all_goals
  go_enter Tryz.func192,Tryz.ntmps192
  go_wp2
  go_ret
  simp[b1_true,b1_false]
set_option maxHeartbeats 400000 in
theorem size_any (n:Int) (w:World) (h1 : -9223372036854775807≤n) (h2:n≤9223372036854775807) :
  Calls Tryz.prog 166 #[.int .i64 n] w fun e w'=>e = .returned (.int .i64 (n.natAbs:Nat))∧w'=w:=by
 by_cases h:0≤n
 all_goals
  go_enter Tryz.func166,Tryz.ntmps166
  go_wp2
  go_ret
  exact⟨ret_int (by omega),rfl⟩
set_option maxHeartbeats 400000 in
theorem rounded_any (n b:Int) (w:World) (h1 : -4611686018427387904≤2*n) (h2:2*n≤4611686018427387904) (h3:1≤b) (h4:b≤2305843009213693952) :
  Calls Tryz.prog 191 #[.int .i64 n,.int .i64 b] w fun e w'=>e = .returned (.tuple #[.int .i64 ((2*n+b)/(2*b)),.bool (n%b != 0)])∧∃k,w'=w.drewN k:=by
 go_enter Tryz.func191,Tryz.ntmps191
 go_wp2_with fail
 go_quiet ((go_at_call 110;exact Calls.quiet_of_same (floor_any _ _ _ (by omega) (by omega) (by omega) (by omega))))
 go_wp2
 go_ret2
 exact⟨ret_pair_ib rfl (by rw[tmod_ne]),nq,rfl⟩
def Sm (x:Int):Prop := -1073741824≤x∧x≤1073741824
theorem Sm.mul {x y:Int} (hx:Sm x) (hy:Sm y) : -1152921504606846976≤x*y∧x*y≤1152921504606846976:=by
 obtain⟨a,b⟩:=hx
 obtain⟨c,d⟩:=hy
 have h1:(x.natAbs*y.natAbs:Nat)≤1073741824*1073741824:=Nat.mul_le_mul (by omega) (by omega)
 have h2:(x*y).natAbs=x.natAbs*y.natAbs:=Int.natAbs_mul x y
 omega
set_option maxHeartbeats 400000 in
theorem plus_any (a b c d:Int) (w:World) (h1:Sm a) (h2:Sm b) (h3:Sm c) (h4:Sm d) :
  Calls Tryz.prog 184 #[.agg #[.int .i64 a,.int .i64 b],.agg #[.int .i64 c,.int .i64 d]] w fun e w'=>e = .returned (.agg #[.int .i64 (a+c),.int .i64 (b+d)])∧Below w.heap.size w w':=by
 unfold Sm at h1 h2 h3 h4
 go_enter Tryz.func184,Tryz.ntmps184
 go_wp2
 go_returns
 exact⟨rfl,by go_grown⟩
set_option maxHeartbeats 400000 in
theorem minus_any (a b c d:Int) (w:World) (h1:Sm a) (h2:Sm b) (h3:Sm c) (h4:Sm d) :
  Calls Tryz.prog 198 #[.agg #[.int .i64 a,.int .i64 b],.agg #[.int .i64 c,.int .i64 d]] w fun e w'=>e = .returned (.agg #[.int .i64 (a-c),.int .i64 (b-d)])∧Below w.heap.size w w':=by
 unfold Sm at h1 h2 h3 h4
 go_enter Tryz.func198,Tryz.ntmps198
 go_wp2
 go_returns
 exact⟨rfl,by go_grown⟩
set_option maxHeartbeats 400000 in
theorem times_any (a b c d:Int) (w:World) (h1:Sm a) (h2:Sm b) (h3:Sm c) (h4:Sm d) :
  Calls Tryz.prog 190 #[.agg #[.int .i64 a,.int .i64 b],.agg #[.int .i64 c,.int .i64 d]] w fun e w'=>e = .returned (.agg #[.int .i64 (a*c-b*d),.int .i64 (a*d+b*c)])∧Below w.heap.size w w':=by
 have q1:=h1.mul h3
 have q2:=h2.mul h4
 have q3:=h1.mul h4
 have q4:=h2.mul h3
 go_enter Tryz.func190,Tryz.ntmps190
 go_wp2
 go_returns
 exact⟨rfl,by go_grown⟩
set_option maxHeartbeats 400000 in
theorem conj_any (a b:Int) (w:World) (h2:Sm b) :
  Calls Tryz.prog 194 #[.agg #[.int .i64 a,.int .i64 b]] w fun e w'=>e = .returned (.agg #[.int .i64 a,.int .i64 (-b)])∧Below w.heap.size w w':=by
 unfold Sm at h2
 go_enter Tryz.func194,Tryz.ntmps194
 go_wp2
 go_returns
 exact⟨rfl,by go_grown⟩
set_option maxHeartbeats 400000 in
theorem square_any (a b:Int) (w:World) (h1:Sm a) (h2:Sm b) :
  Calls Tryz.prog 195 #[.agg #[.int .i64 a,.int .i64 b]] w fun e w'=>e = .returned (.int .i64 (a*a+b*b))∧Below w.heap.size w w':=by
 have q1:=h1.mul h1
 have q2:=h2.mul h2
 go_enter Tryz.func195,Tryz.ntmps195
 go_wp2
 go_returns
 exact⟨rfl,by go_grown⟩
def Sh (x:Int):Prop := -536870912≤x∧x≤536870912
theorem Sh.sm {x:Int} (h:Sh x):Sm x:=⟨by have:=h.1;omega,by have:=h.2;omega⟩
theorem Sh.sq {x y:Int} (hx:Sh x) (hy:Sh y):0≤x*x+y*y∧x*x+y*y≤576460752303423488:=by
 have key:∀z:Int,Sh z→0≤z*z∧z*z≤288230376151711744:=fun z ⟨a,b⟩=>by
  have h1:(z.natAbs*z.natAbs:Nat)≤536870912*536870912:=Nat.mul_le_mul (by omega) (by omega)
  have h2:((z.natAbs*z.natAbs:Nat):Int)=z*z:=by rw[Int.natCast_mul];exact Int.natAbs_mul_self' z
  omega
 have:=key x hx
 have:=key y hy
 omega
set_option maxHeartbeats 400000 in
theorem down_any (a b:Int) (w:World) (h1:Sh a) (h2:Sh b) :
  Calls Tryz.prog 163 #[.agg #[.int .i64 a,.int .i64 b]] w fun e w'=>e = .returned (.int .i64 (rt (a*a+b*b)))∧Below w.heap.size w w':=by
 have q:=h1.sq h2
 go_enter Tryz.func163,Tryz.ntmps163
 go_wp2_with (first
  | (go_at_call 195;refine(square_any _ _ _ h1.sm h2.sm).mono ?_;rintro e w1 ⟨rfl,hb1⟩)
  | (go_at_call 165;refine(root_any _ _ (by omega) (by omega)).mono ?_;rintro e w' ⟨rfl,rfl⟩))
 go_returns
 exact⟨rfl,by repeat' (first|(with_reducible exact Below.refl _ _)|(with_reducible assumption)|(with_reducible refine bl_alloc ?_ _)|(with_reducible refine bl_drew ?_)|(with_reducible refine bl_drewN ?_)|(with_reducible refine bl_setCell ?_ ?_ _)|(with_reducible refine bl_call ?_ (by with_reducible assumption))|(simp;done)|(simp;omega))⟩
set_option maxHeartbeats 400000 in
theorem up_any (a b:Int) (w:World) (h1:Sh a) (h2:Sh b) :
  Calls Tryz.prog 171 #[.agg #[.int .i64 a,.int .i64 b]] w fun e w'=>e = .returned (.int .i64 (rtu (a*a+b*b)))∧Below w.heap.size w w':=by
 have q:=h1.sq h2
 go_enter Tryz.func171,Tryz.ntmps171
 go_wp2_with (first
  | (go_at_call 195;refine(square_any _ _ _ h1.sm h2.sm).mono ?_;rintro e w1 ⟨rfl,hb1⟩)
  | (go_at_call 168;refine(rootUp_any _ _ (by omega) (by omega)).mono ?_;rintro e w' ⟨rfl,rfl⟩))
 go_returns
 exact⟨rfl,by repeat' (first|(with_reducible exact Below.refl _ _)|(with_reducible assumption)|(with_reducible refine bl_alloc ?_ _)|(with_reducible refine bl_drew ?_)|(with_reducible refine bl_drewN ?_)|(with_reducible refine bl_setCell ?_ ?_ _)|(with_reducible refine bl_call ?_ (by with_reducible assumption))|(simp;done)|(simp;omega))⟩
end Go.Proofs.YticobgianbecpaaGreatDoor
