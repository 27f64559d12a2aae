/- What would be read: its ranges are ranges; whether what would be read is apart from, or inside of, something else. -/
import Derived.Test.YtllpncmpofhgmaaGreatKPred
namespace Go.Proofs.YtllpncmpofhgmaaGreat
open Go Go.Sort Go.RowKit
@[irreducible] def apartB (S T:Seen):Bool:=(decide (S.n1<T.n0)||decide (T.n1<S.n0))||((decide (S.c1<T.c0)||decide (T.c1<S.c0))||(decide (S.s1<T.s0)||decide (T.s1<S.s0)))
@[irreducible] def insideB (S T:Seen):Bool := !((decide (S.n0<T.n0)||decide (T.n1<S.n1))||((decide (S.c0<T.c0)||decide (T.c1<S.c1))||(decide (S.s0<T.s0)||decide (T.s1<S.s1))))
theorem apart_symm (S T:Seen):apartB S T=apartB T S:=by
 unfold apartB
 simp only[Bool.or_comm (decide (S.n1<T.n0)),Bool.or_comm (decide (S.c1<T.c0)),Bool.or_comm (decide (S.s1<T.s0))]
theorem inside_self (S:Seen):insideB S S=true:=by unfold insideB;simp
structure SeenOk (S:Seen):Prop where
 n : -1048576≤S.n0∧S.n0≤S.n1∧S.n1≤1048576
 c : -1048576≤S.c0∧S.c0≤S.c1∧S.c1≤1048576
 s : -1048576≤S.s0∧S.s0≤S.s1∧S.s1≤1048576
theorem apart_self {S:Seen} (h:SeenOk S):apartB S S=false:=by
 obtain⟨h1,h2,h3⟩:=h
 unfold apartB
 simp
 omega
theorem clamp_range {a b:Int} (h:a≤b) : -1048576≤clamp a∧clamp a≤clamp b∧clamp b≤1048576:=by unfold clamp;omega
theorem le_cdv {x A:Int} (hA:0<A):x/A≤cdv x A:=by
 have h1:=Int.ediv_mul_le x (show A≠0 by omega)
 have h2:=Int.ediv_mul_le (-x) (show A≠0 by omega)
 unfold cdv
 have h3:x/A*A + -x/A*A≤0:=by omega
 have h4:(x/A + -x/A)*A≤0*A:=by rw[Int.add_mul];omega
 have h5:=Int.le_of_mul_le_mul_right h4 hA
 omega
theorem loC_hiC {lo hi A B:Int} (hA:0<A):loC lo hi A B≤hiC lo hi A B:=by
 have:=le_cdv (x := -2*lo*1048576) hA
 unfold loC hiC
 omega
theorem loN_hiN {a0 a1 c0 c1:Int} (h0:0≤a0) (ha:a0≤a1) (g0:0≤c0) (hc:c0≤c1) (hz:0<a0+c0):loN a0 c1≤hiN a1 c0:=by
 unfold loN hiN cdv
 have p1:0<a0+c1:=by omega
 have p2:0<a1+c0:=by omega
 have h1:=Int.ediv_mul_le ((a0-c1)*1048576) (show a0+c1≠0 by omega)
 have h2:=Int.ediv_mul_le (-((a1-c0)*1048576)) (show a1+c0≠0 by omega)
 generalize (a0-c1)*1048576/(a0+c1)=x at *
 generalize -((a1-c0)*1048576)/(a1+c0)=y at *
 have k1:x*(a0+c1)*(a1+c0)≤(a0-c1)*1048576*(a1+c0):=Int.mul_le_mul_of_nonneg_right h1 (by omega)
 have k2:y*(a1+c0)*(a0+c1) ≤ -((a1-c0)*1048576)*(a0+c1):=Int.mul_le_mul_of_nonneg_right h2 (by omega)
 have k3:0≤a1*(c1-c0):=Int.mul_nonneg (by omega) (by omega)
 have k4:0≤(a1-a0)*c0:=Int.mul_nonneg (by omega) g0
 have k5:(x+y)*((a0+c1)*(a1+c0))≤0*((a0+c1)*(a1+c0)):=by grind
 have k6:=Int.le_of_mul_le_mul_right k5 (Int.mul_pos p1 p2)
 omega
theorem seenM_ok {R0 R1 M:Res} (h0:Fine R0) (h1:Fine R1) (hz:enRL R0+enRL R1≠0):SeenOk (seenM R0 R1 M):=by
 obtain⟨a0,a1,_⟩:=enR_le h0
 obtain⟨c0,c1,_⟩:=enR_le h1
 unfold seenM
 exact⟨clamp_range (loN_hiN a0 a1 c0 c1 (by omega)),clamp_range (loC_hiC (by omega)),clamp_range (loC_hiC (by omega))⟩
theorem seenR_ok {R0 R1:Res} (h0:Fine R0) (h1:Fine R1):SeenOk (seenR R0 R1):=by
 have bad:∀q,SeenOk (.bad q):=fun q=>⟨by simp[Seen.bad],by simp[Seen.bad],by simp[Seen.bad]⟩
 unfold seenR
 split
 ·split
  ·split
   ·split
    ·exact bad _
    ·rename_i h;exact seenM_ok h0 h1 h
   ·exact bad _
  ·exact bad _
 ·exact bad _
theorem seenB_ok (wv ix si:Int) (ls:List Box) (oi ol:Int):SeenOk (seenB wv ix si ls oi ol):=by
 unfold seenB
 exact seenR_ok (fine_amp _ _) (fine_amp _ _)
@[irreducible] def tellsB (wv ix si:Int) (A B:List Box) (oi ol:Int):Bool:=decide ((seenB wv ix si A oi ol).q=0)&&(decide ((seenB wv ix si B oi ol).q=0)&&apartB (seenB wv ix si A oi ol) (seenB wv ix si B oi ol))
end Go.Proofs.YtllpncmpofhgmaaGreat
