/- Joined: Norm DirLaw. -/
import Derived.Test.YticobgianbecpaaGreatDoorKNum
namespace Go.Proofs.YticobgianbecpaaGreatDoor
theorem sq_nonneg (a:Int):0≤a*a:=by
 rcases Int.le_total 0 a with h|h
 ·exact Int.mul_nonneg h h
 ·have:=Int.mul_nonneg_of_nonpos_of_nonpos h h;exact this
theorem sq_lt_sq' {a b:Int} (ha:0≤a) (h:a<b):a*a<b*b:=by
 have h1:a*a≤a*b:=Int.mul_le_mul_of_nonneg_left (by omega) ha
 have h2:a*b<b*b:=Int.mul_lt_mul_of_pos_right h (by omega)
 omega
theorem le_of_sq' {a b:Int} (hb:0≤b) (h:a*a≤b*b):a≤b:=by
 rcases Int.lt_or_le b a with h1|h1
 ·have:=sq_lt_sq' hb h1;omega
 ·exact h1
theorem cauchy (a b c d:Int):(a*c+b*d)*(a*c+b*d)+(a*d-b*c)*(a*d-b*c)=(a*a+b*b)*(c*c+d*d):=by grind
theorem tri (M a b c d A B:Int) (hM:0≤M) (hA:0≤A) (hB:0≤B) (h1:a*a+b*b≤A*A*M) (h2:c*c+d*d≤B*B*M) :
  (a+c)*(a+c)+(b+d)*(b+d)≤(A+B)*(A+B)*M:=by
 have hc:=cauchy a b c d
 have n1:=sq_nonneg (a*d-b*c)
 have n2:=sq_nonneg a
 have n3:=sq_nonneg b
 have n4:=sq_nonneg c
 have n5:=sq_nonneg d
 have h3:(a*a+b*b)*(c*c+d*d)≤(A*A*M)*(B*B*M):=Int.mul_le_mul h1 h2 (by omega) (Int.mul_nonneg (Int.mul_nonneg hA hA) hM)
 have e3:(A*A*M)*(B*B*M)=(A*B*M)*(A*B*M):=by grind
 have h4:a*c+b*d≤A*B*M:=le_of_sq' (Int.mul_nonneg (Int.mul_nonneg hA hB) hM) (by omega)
 have e1:(a+c)*(a+c)+(b+d)*(b+d)=(a*a+b*b)+(c*c+d*d)+2*(a*c+b*d):=by grind
 have e2:(A+B)*(A+B)*M=A*A*M+B*B*M+2*(A*B*M):=by grind
 omega
theorem tri1 (a b c d A B:Int) (hA:0≤A) (hB:0≤B) (h1:a*a+b*b≤A*A) (h2:c*c+d*d≤B*B) :
  (a+c)*(a+c)+(b+d)*(b+d)≤(A+B)*(A+B):=by
 have:=tri 1 a b c d A B (by omega) hA hB (by omega) (by omega)
 omega
end Go.Proofs.YticobgianbecpaaGreatDoor
namespace Go.Proofs.YticobgianbecpaaGreatDoor
@[irreducible] def bwR (a b c d:Int):Int:=rt ((a+c)*(a+c)+(b+d)*(b+d))
@[irreducible] def bwX (a b c d:Int):Int:=(a+c)*67108864/bwR a b c d
@[irreducible] def bwY (a b c d:Int):Int:=(b+d)*67108864/bwR a b c d
def dirF:Nat→Nat→Int→Int→Int→Int→Int × Int
 | 0,j,a,b,c,d=>if j=0 then(a,b)else(c,d)
 | k+1,j,a,b,c,d=>if 2^k≤j then dirF k (j-2^k) (bwX a b c d) (bwY a b c d) c d else dirF k j a b (bwX a b c d) (bwY a b c d)
theorem dirF_lo (k:Nat) (a b c d:Int):dirF k 0 a b c d=(a,b):=by
 induction k generalizing c d with
 | zero=>rfl
 | succ k ih=>unfold dirF;rw[if_neg (by have:=Nat.two_pow_pos k;omega)];exact ih _ _
theorem dirF_hi (k:Nat) (a b c d:Int):dirF k (2^k) a b c d=(c,d):=by
 induction k generalizing a b with
 | zero=>rfl
 | succ k ih=>unfold dirF;rw[if_pos (by rw[Nat.pow_succ];have:=Nat.two_pow_pos k;omega),show 2^(k+1)-2^k=2^k by rw[Nat.pow_succ];omega];exact ih _ _
def Dirn (a b:Int):Prop:=1≤a∧0≤b∧b≤a∧a≤67108864
theorem bw_facts {a b c d:Int} (h:Dirn a b) (h':Dirn c d):2≤a+c∧a+c≤bwR a b c d∧bwR a b c d≤268435456∧0≤(a+c)*(a+c)+(b+d)*(b+d)∧(a+c)*(a+c)+(b+d)*(b+d)≤36028797018963968∧0≤(a+c)*67108864∧(a+c)*67108864≤9007199254740992∧0≤(b+d)*67108864∧(b+d)*67108864≤9007199254740992:=by
 obtain⟨h1,h2,h3,h4⟩:=h
 obtain⟨h5,h6,h7,h8⟩:=h'
 have q1:(a+c)*(a+c)≤134217728*134217728:=Int.mul_le_mul (by omega) (by omega) (by omega) (by omega)
 have q2:(b+d)*(b+d)≤134217728*134217728:=Int.mul_le_mul (by omega) (by omega) (by omega) (by omega)
 have q3:=sq_nonneg (a+c)
 have q4:=sq_nonneg (b+d)
 have s:=rt_spec (n:=(a+c)*(a+c)+(b+d)*(b+d)) (by omega) (by omega)
 have n:=rt_nonneg ((a+c)*(a+c)+(b+d)*(b+d))
 have hR:bwR a b c d=rt ((a+c)*(a+c)+(b+d)*(b+d)):=by unfold bwR;rfl
 rw[← hR]at s n
 refine⟨by omega,?_,?_,by omega,by omega,by omega,by omega,by omega,by omega⟩
 ·have:=lt_of_sq (a:=a+c) (b:=bwR a b c d+1) (by omega) (by omega)
  omega
 ·exact le_of_sq (by omega) (by omega)
theorem bw_dirn {a b c d:Int} (h:Dirn a b) (h':Dirn c d):Dirn (bwX a b c d) (bwY a b c d):=by
 have⟨f1,f2,f3,f4,f5,f6,f7,f8,f9⟩:=bw_facts h h'
 obtain⟨h1,h2,h3,h4⟩:=h
 obtain⟨h5,h6,h7,h8⟩:=h'
 have q3:=sq_nonneg (a+c)
 have q4:(b+d)*(b+d)≤(a+c)*(a+c):=Int.mul_le_mul (by omega) (by omega) (by omega) (by omega)
 have s:=rt_spec (n:=(a+c)*(a+c)+(b+d)*(b+d)) (by omega) (by omega)
 have hR:bwR a b c d=rt ((a+c)*(a+c)+(b+d)*(b+d)):=by unfold bwR;rfl
 rw[← hR]at s
 have r2:bwR a b c d≤2*(a+c):=le_of_sq (by omega) (by have:2*(a+c)*(2*(a+c))=4*((a+c)*(a+c)):=by grind
                                                      omega)
 unfold bwX bwY
 generalize bwR a b c d=r at *
 refine⟨?_,Int.ediv_nonneg (by omega) (by omega),Int.ediv_le_ediv (by omega) (by omega),?_⟩
 ·rw[Int.le_ediv_iff_mul_le (by omega)];omega
 ·rw[Int.ediv_le_iff_le_mul (by omega)];omega
theorem dirF_dirn (k:Nat):∀(j:Nat) (a b c d:Int),Dirn a b→Dirn c d→Dirn (dirF k j a b c d).1 (dirF k j a b c d).2:=by
 induction k with
 | zero=>intro j a b c d h h';unfold dirF;split;exact h;exact h'
 | succ k ih =>
  intro j a b c d h h'
  unfold dirF
  split
  ·exact ih _ _ _ _ _ (bw_dirn h h') h'
  ·exact ih _ _ _ _ _ h (bw_dirn h h')
@[irreducible] def fstX (m:Nat):Int:=(dirF 19 m 67108864 0 47453132 47453132).1
@[irreducible] def fstY (m:Nat):Int:=(dirF 19 m 67108864 0 47453132 47453132).2
theorem dirn_a:Dirn 67108864 0:=by unfold Dirn;omega
theorem dirn_b:Dirn 47453132 47453132:=by unfold Dirn;omega
theorem fst_dirn (m:Nat):Dirn (fstX m) (fstY m):=by unfold fstX fstY;exact dirF_dirn 19 m _ _ _ _ dirn_a dirn_b
def d1X (m:Nat):Int:=if 524288<m then fstY (1048576-m)else fstX m
def d1Y (m:Nat):Int:=if 524288<m then fstX (1048576-m)else fstY m
def d2X (m:Nat):Int:=if 1048576≤m then -d1Y (m-1048576)else d1X m
def d2Y (m:Nat):Int:=if 1048576≤m then d1X (m-1048576)else d1Y m
def d3X (m:Nat):Int:=if 2097152≤m then -d2X (m-2097152)else d2X m
def d3Y (m:Nat):Int:=if 2097152≤m then -d2Y (m-2097152)else d2Y m
@[irreducible] def plc (l:Int):Nat:=(l%4194304).toNat
theorem plc_lt (l:Int):plc l<4194304:=by unfold plc;omega
theorem plc_eq (l:Int):∃k:Int,(plc l:Int)=l-4194304*k:=⟨l/4194304,by unfold plc;omega⟩
@[irreducible] def dcX (l:Int):Int:=d3X (plc l)
@[irreducible] def dcY (l:Int):Int:=d3Y (plc l)
def Dsm (a b:Int):Prop := -67108864≤a∧a≤67108864 ∧ -67108864≤b∧b≤67108864
theorem d1_sm (m:Nat):Dsm (d1X m) (d1Y m):=by
 unfold d1X d1Y Dsm
 split
 ·have:=fst_dirn (1048576-m);unfold Dirn at this;omega
 ·have:=fst_dirn m;unfold Dirn at this;omega
theorem d2_sm (m:Nat):Dsm (d2X m) (d2Y m):=by
 unfold d2X d2Y
 split
 ·have:=d1_sm (m-1048576);unfold Dsm at *;omega
 ·exact d1_sm m
theorem d3_sm (m:Nat):Dsm (d3X m) (d3Y m):=by
 unfold d3X d3Y
 split
 ·have:=d2_sm (m-2097152);unfold Dsm at *;omega
 ·exact d2_sm m
theorem dc_sm (l:Int):Dsm (dcX l) (dcY l):=by unfold dcX dcY;exact d3_sm _
@[irreducible] def ctX (l:Int):Int:=(2*dcX l+64)/128
@[irreducible] def ctY (l:Int):Int:=(2*dcY l+64)/128
theorem ct_sm (l:Int) : -1048576≤ctX l∧ctX l≤1048576 ∧ -1048576≤ctY l∧ctY l≤1048576:=by
 have:=dc_sm l
 unfold Dsm at this
 unfold ctX ctY
 omega
theorem fst_zero:fstX 0=67108864∧fstY 0=0:=by unfold fstX fstY;rw[dirF_lo];exact⟨rfl,rfl⟩
end Go.Proofs.YticobgianbecpaaGreatDoor
