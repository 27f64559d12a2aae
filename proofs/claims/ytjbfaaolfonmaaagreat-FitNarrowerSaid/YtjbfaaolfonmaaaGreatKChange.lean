/- Joined: ChangeLaw Small Change SmallChange. -/
import Derived.Test.YtjbfaaolfonmaaaGreatKLight
import Derived.Test.YtjbfaaolfonmaaaGreatKFit
import Derived.Test.YtjbfaaolfonmaaaGreatKCalm
import Derived.Deep.RegionHeld3
import Derived.Test.YtjbfaaolfonmaaaGreatKEnd
namespace Go.Proofs.YtjbfaaolfonmaaaGreat
structure Sums where
 xx:Int
 xy:Int
 yy:Int
 x:Int
 y:Int
def sums (r s v:Nat→Int):Nat→Sums
 | 0=>⟨0,0,0,0,0⟩
 | k+1=>⟨(sums r s v k).xx+r k*r k,(sums r s v k).xy+r k*s k,(sums r s v k).yy+s k*s k,(sums r s v k).x+r k*v k,(sums r s v k).y+s k*v k⟩
def Sums.a (z:Sums):Int:=z.x*z.yy-z.y*z.xy
def Sums.b (z:Sums):Int:=z.y*z.xx-z.x*z.xy
def Sums.den (z:Sums):Int:=z.xx*z.yy-z.xy*z.xy
def PartOk (n:Int):Prop := -1000≤n∧n≤1000
theorem prod_bd {a b A B:Int} (h1 : -A≤a) (h2:a≤A) (h3 : -B≤b) (h4:b≤B) : -(A*B)≤a*b∧a*b≤A*B:=by
 have hA:0≤A:=by omega
 have hB:0≤B:=by omega
 have k1:0≤(A-a)*(B+b):=Int.mul_nonneg (by omega) (by omega)
 have k2:0≤(A+a)*(B-b):=Int.mul_nonneg (by omega) (by omega)
 have k3:0≤(A-a)*(B-b):=Int.mul_nonneg (by omega) (by omega)
 have k4:0≤(A+a)*(B+b):=Int.mul_nonneg (by omega) (by omega)
 constructor<;>grind
theorem sums_bd (r s v:Nat→Int) (K:Int):∀k,(∀i,i<k→(-K≤r i∧r i≤K)∧(-K≤s i∧s i≤K)∧(-K≤v i∧v i≤K)) →
  (0≤(sums r s v k).xx∧(sums r s v k).xx≤k*(K*K))∧(-(k*(K*K))≤(sums r s v k).xy∧(sums r s v k).xy≤k*(K*K))∧(0≤(sums r s v k).yy∧(sums r s v k).yy≤k*(K*K)) ∧
  (-(k*(K*K))≤(sums r s v k).x∧(sums r s v k).x≤k*(K*K))∧(-(k*(K*K))≤(sums r s v k).y∧(sums r s v k).y≤k*(K*K)):=by
 intro k
 induction k with
 | zero=>intro _;simp[sums]
 | succ k ih =>
  intro h
  obtain⟨i1,i2,i3,i4,i5⟩:=ih (fun i hi=>h i (by omega))
  obtain⟨⟨a1,a2⟩,⟨b1,b2⟩,⟨c1,c2⟩⟩:=h k (by omega)
  have p1:=prod_bd a1 a2 a1 a2
  have p2:=prod_bd a1 a2 b1 b2
  have p3:=prod_bd b1 b2 b1 b2
  have p4:=prod_bd a1 a2 c1 c2
  have p5:=prod_bd b1 b2 c1 c2
  have q1:0≤r k*r k:=by
   rcases Int.le_total 0 (r k)with h|h
   ·exact Int.mul_nonneg h h
   ·exact Int.mul_nonneg_of_nonpos_of_nonpos h h
  have q3:0≤s k*s k:=by
   rcases Int.le_total 0 (s k)with h|h
   ·exact Int.mul_nonneg h h
   ·exact Int.mul_nonneg_of_nonpos_of_nonpos h h
  have e:((k+1:Nat):Int)*(K*K)=k*(K*K)+K*K:=by push_cast;grind
  rw[e]
  simp only[sums]
  generalize (k:Int)*(K*K)=M at *
  generalize K*K=L at *
  omega
theorem form_nonneg (r s v:Nat→Int) (p q:Int) (k:Nat):0≤(sums r s v k).xx*q*q-2*(sums r s v k).xy*p*q+(sums r s v k).yy*p*p:=by
 induction k with
 | zero=>simp[sums]
 | succ k ih =>
  have h:0≤(r k*q-s k*p)*(r k*q-s k*p):=by
   rcases Int.le_total 0 (r k*q-s k*p)with h|h
   ·exact Int.mul_nonneg h h
   ·exact Int.mul_nonneg_of_nonpos_of_nonpos h h
  simp only[sums]
  grind
theorem den_nonneg (r s v:Nat→Int) (k:Nat):0≤(sums r s v k).den:=by
 induction k with
 | zero=>simp[sums,Sums.den]
 | succ k ih =>
  have h:=form_nonneg r s v (r k) (s k) k
  simp only[sums,Sums.den]at ih ⊢
  grind
def miss (r s v:Nat→Int) (n i:Nat):Int:=v i*(sums r s v n).den-(sums r s v n).a*r i-(sums r s v n).b*s i
def against (c m:Nat→Int):Nat→Int
 | 0=>0
 | k+1=>against c m k+m k*c k
theorem against_is (r s v:Nat→Int) (n:Nat):∀k,against r (miss r s v n) k=(sums r s v k).x*(sums r s v n).den-(sums r s v n).a*(sums r s v k).xx-(sums r s v n).b*(sums r s v k).xy ∧
  against s (miss r s v n) k=(sums r s v k).y*(sums r s v n).den-(sums r s v n).a*(sums r s v k).xy-(sums r s v n).b*(sums r s v k).yy:=by
 intro k
 induction k with
 | zero=>simp[against,sums]
 | succ k ih =>
  obtain⟨h1,h2⟩:=ih
  simp only[against,sums,h1,h2]
  unfold miss
  constructor<;>grind
theorem against_zero (r s v:Nat→Int) (n:Nat):against r (miss r s v n) n=0∧against s (miss r s v n) n=0:=by
 obtain⟨h1,h2⟩:=against_is r s v n n
 rw[h1,h2]
 unfold Sums.den Sums.a Sums.b
 constructor<;>grind
@[irreducible] def lowN (n d:Int):Int:=n/(Int.gcd n d:Int)
@[irreducible] def lowD (n d:Int):Int:=d/(Int.gcd n d:Int)
theorem gcd_pos {n d:Int} (h:0<d):0<(Int.gcd n d:Int):=by
 have:Int.gcd n d≠0:=fun e=>by
  have:=(Int.gcd_eq_zero_iff.1 e).2
  omega
 omega
theorem lowD_pos {n d:Int} (h:0<d):1≤lowD n d∧lowD n d≤d:=by
 unfold lowD
 have g:=gcd_pos (n:=n) h
 have k:(Int.gcd n d:Int)*(d/(Int.gcd n d:Int))=d:=Int.mul_ediv_cancel' (Int.gcd_dvd_right ..)
 generalize (Int.gcd n d:Int)=G at *
 generalize d/G=D at *
 have hD:0<D:=by
  rcases Int.lt_or_le 0 D with h1|h1
  ·exact h1
  ·have:=Int.mul_nonpos_of_nonneg_of_nonpos (Int.le_of_lt g) h1
   omega
 refine⟨hD,?_⟩
 have:1*D≤G*D:=Int.mul_le_mul_of_nonneg_right (by omega) (by omega)
 omega
theorem low_back {n d:Int} (h:0<d):lowN n d*(d/lowD n d)=n∧d%lowD n d=0:=by
 have hD:=lowD_pos (n:=n) h
 unfold lowD at hD ⊢
 unfold lowN
 have g:=gcd_pos (n:=n) h
 have k:(Int.gcd n d:Int)*(d/(Int.gcd n d:Int))=d:=Int.mul_ediv_cancel' (Int.gcd_dvd_right ..)
 have k2:n/(Int.gcd n d:Int)*(Int.gcd n d:Int)=n:=Int.ediv_mul_cancel (Int.gcd_dvd_left ..)
 generalize (Int.gcd n d:Int)=G at *
 have e:d/(d/G)=G:=by
  refine Int.ediv_eq_of_eq_mul_left (by omega) ?_
  exact k.symm
 rw[e]
 exact⟨k2,Int.emod_eq_zero_of_dvd ⟨G,by rw[Int.mul_comm];exact k.symm⟩⟩
@[irreducible] def smallQ (n d:Int):Bool:=decide (-1000000000≤lowN n d)&&decide (lowN n d≤1000000000)&&decide (lowD n d≤1000000000)
theorem gcd_step (a b:Int):Int.gcd b (a.tmod b)=Int.gcd a b:=by
 rw[Int.gcd_eq_natAbs_gcd_natAbs,Int.gcd_eq_natAbs_gcd_natAbs,Int.natAbs_tmod,Nat.gcd_comm b.natAbs,← Nat.gcd_rec,Nat.gcd_comm]
theorem gcd_end (a:Int):(Int.gcd a 0:Int)=max a (-a):=by
 rw[Int.gcd_zero_right]
 omega
end Go.Proofs.YtjbfaaolfonmaaaGreat
namespace Go.Proofs.YtjbfaaolfonmaaaGreat
open Go Go.Sort Go.RowKit
theorem low_bd {n d:Int} (hd:1≤d) (M:Int) (h1 : -M≤n) (h2:n≤M) : -M≤lowN n d∧lowN n d≤M:=by
 unfold lowN
 have g:=gcd_pos (n:=n) (d:=d) (by omega)
 have k2:n/(Int.gcd n d:Int)*(Int.gcd n d:Int)=n:=Int.ediv_mul_cancel (Int.gcd_dvd_left ..)
 generalize (Int.gcd n d:Int)=G at *
 generalize n/G=q at *
 rcases Int.le_total 0 q with hq|hq
 ·have:q*1≤q*G:=Int.mul_le_mul_of_nonneg_left (by omega) hq
  omega
 ·have:q*G≤q*1:=Int.mul_le_mul_of_nonpos_left hq (by omega)
  omega
theorem low_div {n d:Int} (G:Int) (hG:(Int.gcd n d:Int)=G):n.tdiv G=lowN n d∧d.tdiv G=lowD n d:=by
 unfold lowN lowD
 have h1:(Int.gcd n d:Int)∣n:=Int.gcd_dvd_left ..
 have h2:(Int.gcd n d:Int)∣d:=Int.gcd_dvd_right ..
 rw[hG]at h1 h2 ⊢
 exact⟨Int.tdiv_eq_ediv_of_dvd h1,Int.tdiv_eq_ediv_of_dvd h2⟩
theorem tmod_bd {a b M:Int} (hb:b≠0) (h1 : -M≤b) (h2:b≤M):(-M≤a.tmod b∧a.tmod b≤M)∧(a.tmod b).natAbs<b.natAbs:=by
 have h:(a.tmod b).natAbs<b.natAbs:=by
  rw[Int.natAbs_tmod]
  exact Nat.mod_lt _ (Int.natAbs_pos.2 hb)
 exact⟨by omega,h⟩
theorem smallQ_is {n d:Int}{t u:Bool} (h1:inR (lowN n d) (-1000000000) 1000000000=t) (h2:decide (lowD n d≤1000000000)=u):smallQ n d=(t&&u):=by
 unfold smallQ
 unfold inR at h1
 rw[h1,h2]
set_option maxHeartbeats 4000000 in
theorem fsmall_any (n d:Int) (hd:1≤d) (hd2:d≤4000000000000000000) (h1 : -4000000000000000000≤n) (h2:n≤4000000000000000000) (w:World) :
  Calls Tryz.prog 93 #[.int .i64 n,.int .i64 d] w fun E w'=>E = .returned (.tuple #[.agg #[.int .i64 (lowN n d),.int .i64 (lowD n d)],.bool (smallQ n d)])∧Below w.heap.size w w':=by
 have lb:=low_bd hd _ h1 h2
 have db:=lowD_pos (n:=n) (d:=d) (by omega)
 have gp:=gcd_pos (n:=n) (d:=d) (by omega)
 have LD:=fun G hG=>low_div (n:=n) (d:=d) G hG
 obtain⟨t,ht⟩:∃t,inR (lowN n d) (-1000000000) 1000000000=t:=⟨_,rfl⟩
 obtain⟨u,hu⟩:∃u,decide (lowD n d≤1000000000)=u:=⟨_,rfl⟩
 rw[smallQ_is ht hu]
 have WI:=Lib.hid (fun w=>fwithin_is _ _ _ t w ht)
 generalize lowN n d=N at *
 generalize lowD n d=D at *
 generalize hg:(Int.gcd n d:Int)=G at *
 have LD:=Lib.hid (LD G rfl)
 have hu:=Lib.hid hu
 clear ht
 go_enter Tryz.func93,Tryz.ntmps93
 go_wp2_with fail
 go_loopw [6,7] (fun u v wr=>∃a b:Int,u = .int .i64 a∧v = .int .i64 b∧Hid ((Int.gcd a b:Int)=G)∧(-4000000000000000000≤a∧a≤4000000000000000000)∧(-4000000000000000000≤b∧b≤4000000000000000000)∧Below w.heap.size w wr∧w.heap.size<wr.heap.size ∧
  (∀o,wr.cell? ⟨w.heap.size,o,none⟩=(#[.int .i64 0,.int .i64 0]:Array Value)[o]?)∧(∀o,wr.frozen? ⟨w.heap.size,o,none⟩=false)) (fun _ v _=>(intOf v).natAbs)
 case atStart=>exact⟨n,d,rfl,rfl,Lib.hid hg,⟨h1,h2⟩,⟨by omega,hd2⟩,blw,by first|(simp;done)|(simp;omega),fun o=>by go_simp,fun o=>by go_simp⟩
 case round =>
  obtain⟨a,b,rfl,rfl,HG,⟨a1,a2⟩,⟨b1,b2⟩,Ah,Aq,An,Ao⟩:=hrel
  by_cases hb:b=0
  ·subst hb
   have hb1:((0:Int) != 0)=false:=by decide
   have ge:=HG.out
   rw[gcd_end]at ge
   have Ap:w.heap.size<wr.heap.size+1:=by omega
   obtain⟨e1,e2⟩:=LD.out
   have V1:wrap64 N=N:=IntWalk.wrap64_in _ ⟨by omega,by omega⟩
   have V2:IntKind.i64.wrap N=N:=IntWalk.i64_in _ ⟨by omega,by omega⟩
   have V3:wrap64 D=D:=IntWalk.wrap64_in _ ⟨by omega,by omega⟩
   have V4:IntKind.i64.wrap D=D:=IntWalk.i64_in _ ⟨by omega,by omega⟩
   have hG0:¬G=0:=by omega
   rcases Int.lt_trichotomy a 0 with ha|ha|ha
   ·have W9:wrap64 (-a) = -a:=IntWalk.wrap64_in _ ⟨by omega,by omega⟩
    have ge' : -a=G:=by omega
    have K1:¬(a=0):=by omega
    rw[← ge']at e1 e2 hG0
    have LD:=Lib.hid LD
    clear HG ge ge' gp
    cases t
    case false =>
     go_wp2_with fail
     refine calm_new 7 #[.int .i64 0,.int .i64 0] 53 _ rfl (by kernel_rfl) (by kernel_rfl) (fun a w=>by kernel_rfl) fun hG => ?_
     have A7:=hG (w.heap.size) lto
     clear hG
     simp only[List.take_succ_cons,List.take_zero,List.drop_succ_cons,List.drop_zero]
     repeat (refine wpCalm_step (fun K hK => ?_);go_simp;first|(refine hK _ ?_;clear hK K)|(apply Exists.intro;refine⟨fun _ => ?_,hK _ ?_⟩;(first|fail);clear hK K))
     refine wpCalm_nil ?_
     intro B1 w21 hN
     obtain⟨A0,A1,Ae,Ai,Aj⟩:=hN
     (try simp at A1)
     clear A7
     have A2:=A0.size
     (try simp at A2)
     have A6:=bl5 A0 (w.heap.size)
     have Aa:¬B1=w.heap.size:=by first|omega|(simp at A1;omega)
     have A9:¬w.heap.size=B1:=by first|omega|(simp at A1;omega)
     go_wp2_with fail
     refine wp_region_held_drew (S:=(fun w'=>w'.cell? ⟨B1,0,none⟩=some (.int .i64 N)∧w'.cell? ⟨B1,1,none⟩=some (.int .i64 D))) rfl (by simp[*,go_sem]) (fun hS => ?_)
     (refine wpAnyH_take (i:=0) (v := ?zv0) rfl (by kernel_rfl) (by kernel_rfl) (by kernel_rfl) (fun _ _ _ h=>h) (Or.inl ⟨by rfl,?zy0⟩) hS ?zr0;case zy0=>((intro w hSw);(try dsimp only at hSw);go_simp;(try with_reducible rfl)));(repeat (first|simp only[Act.put]|simp only[List.setIfInBounds_toArray]|simp only[List.set_cons_succ]|simp only[List.set_cons_zero]))
     (refine wpAnyH_take (i:=1) (v := ?zv1) rfl (by kernel_rfl) (by kernel_rfl) (by kernel_rfl) (fun _ _ _ h=>h) (Or.inl ⟨by rfl,?zy1⟩) hS ?zr1;case zy1=>((intro w hSw);(try dsimp only at hSw);go_simp;(try with_reducible rfl)));(repeat (first|simp only[Act.put]|simp only[List.setIfInBounds_toArray]|simp only[List.set_cons_succ]|simp only[List.set_cons_zero]))
     (refine wpAnyH_take (i:=2) (v := ?zv2) rfl (by kernel_rfl) (by kernel_rfl) (by kernel_rfl) (fun _ _ _ h=>h) (Or.inl ⟨by rfl,?zy2⟩) hS ?zr2;case zy2=>((intro w hSw);(try dsimp only at hSw);go_simp;(try with_reducible rfl)));(repeat (first|simp only[Act.put]|simp only[List.setIfInBounds_toArray]|simp only[List.set_cons_succ]|simp only[List.set_cons_zero]))
     refine wpAnyH_ready (rs := [3]) (by kernel_rfl) (by simp) ?_;refine AllReadyH.cons rfl (fun K hK => ?_) AllReadyH.nil;go_simp
     go_at_call 119;refine(WI.out _).mono ?_;rintro e w' ⟨rfl,rfl⟩
     refine hK.out _ _ hS (fun hS => ?_);clear hK K;(repeat (first|simp only[Act.put]|simp only[List.setIfInBounds_toArray]|simp only[List.set_cons_succ]|simp only[List.set_cons_zero]))
     (refine wpAnyH_take (i:=4) (v := ?zv4) rfl (by kernel_rfl) (by kernel_rfl) (by kernel_rfl) (fun _ _ _ h=>h) (Or.inl ⟨by rfl,?zy4⟩) hS ?zr4;case zy4=>((intro w hSw);(try dsimp only at hSw);go_simp;(try with_reducible rfl)));(repeat (first|simp only[Act.put]|simp only[List.setIfInBounds_toArray]|simp only[List.set_cons_succ]|simp only[List.set_cons_zero]))
     refine wpAnyH_take (i:=5) (v:=undef) rfl (by kernel_rfl) (by kernel_rfl) (by kernel_rfl) (fun _ _ _ h=>h) (Or.inr ⟨by rfl,rfl⟩) hS ?_;(repeat (first|simp only[Act.put]|simp only[List.setIfInBounds_toArray]|simp only[List.set_cons_succ]|simp only[List.set_cons_zero]))
     refine wpAnyH_take (i:=6) (v:=undef) rfl (by kernel_rfl) (by kernel_rfl) (by kernel_rfl) (fun _ _ _ h=>h) (Or.inr ⟨by rfl,rfl⟩) hS ?_;(repeat (first|simp only[Act.put]|simp only[List.setIfInBounds_toArray]|simp only[List.set_cons_succ]|simp only[List.set_cons_zero]))
     refine wpAnyH_take (i:=7) (v:=undef) rfl (by kernel_rfl) (by kernel_rfl) (by kernel_rfl) (fun _ _ _ h=>h) (Or.inr ⟨by rfl,rfl⟩) hS ?_;(repeat (first|simp only[Act.put]|simp only[List.setIfInBounds_toArray]|simp only[List.set_cons_succ]|simp only[List.set_cons_zero]))
     (refine wpAnyH_take (i:=8) (v := ?zv8) rfl (by kernel_rfl) (by kernel_rfl) (by kernel_rfl) (fun _ _ _ h=>h) (Or.inl ⟨by rfl,?zy8⟩) hS ?zr8;case zy8=>((intro w hSw);(try dsimp only at hSw);go_simp;(try with_reducible rfl)));(repeat (first|simp only[Act.put]|simp only[List.setIfInBounds_toArray]|simp only[List.set_cons_succ]|simp only[List.set_cons_zero]))
     refine wpAnyH_ready (rs := [9]) (by kernel_rfl) (by simp) ?_;refine AllReadyH.cons rfl (fun K hK => ?_) AllReadyH.nil;go_simp
     refine hK.out _ _ (by simp[*,go_sem]) (fun hS => ?_);clear hK K;(repeat (first|simp only[Act.put]|simp only[List.setIfInBounds_toArray]|simp only[List.set_cons_succ]|simp only[List.set_cons_zero]))
     (refine wpAnyH_take (i:=10) (v := ?zv10) rfl (by kernel_rfl) (by kernel_rfl) (by kernel_rfl) (fun _ _ _ h=>h) (Or.inl ⟨by rfl,?zy10⟩) hS ?zr10;case zy10=>((intro w hSw);(try dsimp only at hSw);go_simp;(try with_reducible rfl)));(repeat (first|simp only[Act.put]|simp only[List.setIfInBounds_toArray]|simp only[List.set_cons_succ]|simp only[List.set_cons_zero]))
     refine wpAnyH_done (by kernel_rfl) ?_ _
     all_goals
      repeat' (first|go_values|go_skip|go_guarded|go_step|go_upon|(simp only[];go_simp))
      (with_reducible show bodyPost _ _ _ _ _ _);refine bodyPost_ret (by simp[results,Tryz.results93,go_sem, *];first|done|rfl) rfl ?_
      exact⟨by rfl,blw⟩
    case true =>
     go_wp2_with fail
     refine calm_new 7 #[.int .i64 0,.int .i64 0] 53 _ rfl (by kernel_rfl) (by kernel_rfl) (fun a w=>by kernel_rfl) fun hG => ?_
     have A7:=hG (w.heap.size) lto
     clear hG
     simp only[List.take_succ_cons,List.take_zero,List.drop_succ_cons,List.drop_zero]
     repeat (refine wpCalm_step (fun K hK => ?_);go_simp;first|(refine hK _ ?_;clear hK K)|(apply Exists.intro;refine⟨fun _ => ?_,hK _ ?_⟩;(first|fail);clear hK K))
     refine wpCalm_nil ?_
     intro B1 w21 hN
     obtain⟨A0,A1,Ae,Ai,Aj⟩:=hN
     (try simp at A1)
     clear A7
     have A2:=A0.size
     (try simp at A2)
     have A6:=bl5 A0 (w.heap.size)
     have Aa:¬B1=w.heap.size:=by first|omega|(simp at A1;omega)
     have A9:¬w.heap.size=B1:=by first|omega|(simp at A1;omega)
     go_wp2_with fail
     go_region_held3 (fun w'=>w'.cell? ⟨B1,0,none⟩=some (.int .i64 N)∧w'.cell? ⟨B1,1,none⟩=some (.int .i64 D)) (simp[*,go_sem]) ((go_at_call 119;refine(WI.out _).mono ?_;rintro e w' ⟨rfl,rfl⟩))
     repeat' (first|go_values|go_skip|go_guarded|go_step|go_upon|(simp only[];go_simp))
     (with_reducible show bodyPost _ _ _ _ _ _);refine bodyPost_ret (by simp[results,Tryz.results93,go_sem, *];first|done|rfl) rfl ?_
     exact⟨by rw[← hu.out];rfl,blw⟩
   ·exfalso;omega
   ·
    have ge':a=G:=by omega
    have W9:wrap64 (-a) = -a:=IntWalk.wrap64_in _ ⟨by omega,by omega⟩
    have K1:¬(a=0):=by omega
    rw[← ge']at e1 e2 hG0
    have LD:=Lib.hid LD
    clear HG ge ge' gp
    cases t
    case false =>
     go_wp2_with fail
     refine calm_new 7 #[.int .i64 0,.int .i64 0] 53 _ rfl (by kernel_rfl) (by kernel_rfl) (fun a w=>by kernel_rfl) fun hG => ?_
     have A7:=hG (w.heap.size) lto
     clear hG
     simp only[List.take_succ_cons,List.take_zero,List.drop_succ_cons,List.drop_zero]
     repeat (refine wpCalm_step (fun K hK => ?_);go_simp;first|(refine hK _ ?_;clear hK K)|(apply Exists.intro;refine⟨fun _ => ?_,hK _ ?_⟩;(first|fail);clear hK K))
     refine wpCalm_nil ?_
     intro B1 w21 hN
     obtain⟨A0,A1,Ae,Ai,Aj⟩:=hN
     (try simp at A1)
     clear A7
     have A2:=A0.size
     (try simp at A2)
     have A6:=bl5 A0 (w.heap.size)
     have Aa:¬B1=w.heap.size:=by first|omega|(simp at A1;omega)
     have A9:¬w.heap.size=B1:=by first|omega|(simp at A1;omega)
     go_wp2_with fail
     refine wp_region_held_drew (S:=(fun w'=>w'.cell? ⟨B1,0,none⟩=some (.int .i64 N)∧w'.cell? ⟨B1,1,none⟩=some (.int .i64 D))) rfl (by simp[*,go_sem]) (fun hS => ?_)
     (refine wpAnyH_take (i:=0) (v := ?zq0) rfl (by kernel_rfl) (by kernel_rfl) (by kernel_rfl) (fun _ _ _ h=>h) (Or.inl ⟨by rfl,?zp0⟩) hS ?zt0;case zp0=>((intro w hSw);(try dsimp only at hSw);go_simp;(try with_reducible rfl)));(repeat (first|simp only[Act.put]|simp only[List.setIfInBounds_toArray]|simp only[List.set_cons_succ]|simp only[List.set_cons_zero]))
     (refine wpAnyH_take (i:=1) (v := ?zq1) rfl (by kernel_rfl) (by kernel_rfl) (by kernel_rfl) (fun _ _ _ h=>h) (Or.inl ⟨by rfl,?zp1⟩) hS ?zt1;case zp1=>((intro w hSw);(try dsimp only at hSw);go_simp;(try with_reducible rfl)));(repeat (first|simp only[Act.put]|simp only[List.setIfInBounds_toArray]|simp only[List.set_cons_succ]|simp only[List.set_cons_zero]))
     (refine wpAnyH_take (i:=2) (v := ?zq2) rfl (by kernel_rfl) (by kernel_rfl) (by kernel_rfl) (fun _ _ _ h=>h) (Or.inl ⟨by rfl,?zp2⟩) hS ?zt2;case zp2=>((intro w hSw);(try dsimp only at hSw);go_simp;(try with_reducible rfl)));(repeat (first|simp only[Act.put]|simp only[List.setIfInBounds_toArray]|simp only[List.set_cons_succ]|simp only[List.set_cons_zero]))
     refine wpAnyH_ready (rs := [3]) (by kernel_rfl) (by simp) ?_;refine AllReadyH.cons rfl (fun K hK => ?_) AllReadyH.nil;go_simp
     go_at_call 119;refine(WI.out _).mono ?_;rintro e w' ⟨rfl,rfl⟩
     refine hK.out _ _ hS (fun hS => ?_);clear hK K;(repeat (first|simp only[Act.put]|simp only[List.setIfInBounds_toArray]|simp only[List.set_cons_succ]|simp only[List.set_cons_zero]))
     (refine wpAnyH_take (i:=4) (v := ?zq4) rfl (by kernel_rfl) (by kernel_rfl) (by kernel_rfl) (fun _ _ _ h=>h) (Or.inl ⟨by rfl,?zp4⟩) hS ?zt4;case zp4=>((intro w hSw);(try dsimp only at hSw);go_simp;(try with_reducible rfl)));(repeat (first|simp only[Act.put]|simp only[List.setIfInBounds_toArray]|simp only[List.set_cons_succ]|simp only[List.set_cons_zero]))
     refine wpAnyH_take (i:=5) (v:=undef) rfl (by kernel_rfl) (by kernel_rfl) (by kernel_rfl) (fun _ _ _ h=>h) (Or.inr ⟨by rfl,rfl⟩) hS ?_;(repeat (first|simp only[Act.put]|simp only[List.setIfInBounds_toArray]|simp only[List.set_cons_succ]|simp only[List.set_cons_zero]))
     refine wpAnyH_take (i:=6) (v:=undef) rfl (by kernel_rfl) (by kernel_rfl) (by kernel_rfl) (fun _ _ _ h=>h) (Or.inr ⟨by rfl,rfl⟩) hS ?_;(repeat (first|simp only[Act.put]|simp only[List.setIfInBounds_toArray]|simp only[List.set_cons_succ]|simp only[List.set_cons_zero]))
     refine wpAnyH_take (i:=7) (v:=undef) rfl (by kernel_rfl) (by kernel_rfl) (by kernel_rfl) (fun _ _ _ h=>h) (Or.inr ⟨by rfl,rfl⟩) hS ?_;(repeat (first|simp only[Act.put]|simp only[List.setIfInBounds_toArray]|simp only[List.set_cons_succ]|simp only[List.set_cons_zero]))
     (refine wpAnyH_take (i:=8) (v := ?zq8) rfl (by kernel_rfl) (by kernel_rfl) (by kernel_rfl) (fun _ _ _ h=>h) (Or.inl ⟨by rfl,?zp8⟩) hS ?zt8;case zp8=>((intro w hSw);(try dsimp only at hSw);go_simp;(try with_reducible rfl)));(repeat (first|simp only[Act.put]|simp only[List.setIfInBounds_toArray]|simp only[List.set_cons_succ]|simp only[List.set_cons_zero]))
     refine wpAnyH_ready (rs := [9]) (by kernel_rfl) (by simp) ?_;refine AllReadyH.cons rfl (fun K hK => ?_) AllReadyH.nil;go_simp
     refine hK.out _ _ (by simp[*,go_sem]) (fun hS => ?_);clear hK K;(repeat (first|simp only[Act.put]|simp only[List.setIfInBounds_toArray]|simp only[List.set_cons_succ]|simp only[List.set_cons_zero]))
     (refine wpAnyH_take (i:=10) (v := ?zq10) rfl (by kernel_rfl) (by kernel_rfl) (by kernel_rfl) (fun _ _ _ h=>h) (Or.inl ⟨by rfl,?zp10⟩) hS ?zt10;case zp10=>((intro w hSw);(try dsimp only at hSw);go_simp;(try with_reducible rfl)));(repeat (first|simp only[Act.put]|simp only[List.setIfInBounds_toArray]|simp only[List.set_cons_succ]|simp only[List.set_cons_zero]))
     refine wpAnyH_done (by kernel_rfl) ?_ _
     all_goals
      repeat' (first|go_values|go_skip|go_guarded|go_step|go_upon|(simp only[];go_simp))
      (with_reducible show bodyPost _ _ _ _ _ _);refine bodyPost_ret (by simp[results,Tryz.results93,go_sem, *];first|done|rfl) rfl ?_
      exact⟨by rfl,blw⟩
    case true =>
     go_wp2_with fail
     refine calm_new 7 #[.int .i64 0,.int .i64 0] 53 _ rfl (by kernel_rfl) (by kernel_rfl) (fun a w=>by kernel_rfl) fun hG => ?_
     have A7:=hG (w.heap.size) lto
     clear hG
     simp only[List.take_succ_cons,List.take_zero,List.drop_succ_cons,List.drop_zero]
     repeat (refine wpCalm_step (fun K hK => ?_);go_simp;first|(refine hK _ ?_;clear hK K)|(apply Exists.intro;refine⟨fun _ => ?_,hK _ ?_⟩;(first|fail);clear hK K))
     refine wpCalm_nil ?_
     intro B1 w21 hN
     obtain⟨A0,A1,Ae,Ai,Aj⟩:=hN
     (try simp at A1)
     clear A7
     have A2:=A0.size
     (try simp at A2)
     have A6:=bl5 A0 (w.heap.size)
     have Aa:¬B1=w.heap.size:=by first|omega|(simp at A1;omega)
     have A9:¬w.heap.size=B1:=by first|omega|(simp at A1;omega)
     go_wp2_with fail
     go_region_held3 (fun w'=>w'.cell? ⟨B1,0,none⟩=some (.int .i64 N)∧w'.cell? ⟨B1,1,none⟩=some (.int .i64 D)) (simp[*,go_sem]) ((go_at_call 119;refine(WI.out _).mono ?_;rintro e w' ⟨rfl,rfl⟩))
     repeat' (first|go_values|go_skip|go_guarded|go_step|go_upon|(simp only[];go_simp))
     (with_reducible show bodyPost _ _ _ _ _ _);refine bodyPost_ret (by simp[results,Tryz.results93,go_sem, *];first|done|rfl) rfl ?_
     exact⟨by rw[← hu.out];rfl,blw⟩
  ·have hb1:(b != 0)=true:=by simpa using hb
   obtain⟨⟨m1,m2⟩,m3⟩:=tmod_bd (a:=a) hb b1 b2
   have gs:Hid ((Int.gcd b (a.tmod b):Int)=G):=Lib.hid (by rw[gcd_step];exact HG.out)
   obtain⟨r,hr⟩:∃r,a.tmod b=r:=⟨_,rfl⟩
   rw[hr]at m1 m2 m3 gs
   have m3:=Lib.hid m3
   have V1:wrap64 r=r:=IntWalk.wrap64_in _ ⟨by omega,by omega⟩
   have V2:IntKind.i64.wrap r=r:=IntWalk.i64_in _ ⟨by omega,by omega⟩
   clear HG
   go_wp2_with fail
   refine calm_all (by kernel_rfl) (by kernel_rfl) fun hG => ?_
   have A7:=hG (w.heap.size) lto
   clear hG
   repeat (go_big_quiet_step (first|fail))
   refine wpQuiet_nil ?_
   intro w21 A0
   clear A7
   have A2:=A0.size
   (try simp at A2)
   have A6:=bl5 A0 (w.heap.size)
   go_wp2_with fail
   go_roundw
   case rel=>exact⟨b,r,rfl,rfl,gs,⟨b1,b2⟩,⟨m1,m2⟩,blw,by first|omega|(simp;done)|(simp;omega),fun o=>by go_simp,fun o=>by go_simp⟩
   case measure=>have m3:=m3.out;simp[intOf];omega
end Go.Proofs.YtjbfaaolfonmaaaGreat
namespace Go.Proofs.YtjbfaaolfonmaaaGreat
open Go Go.Sort Go.RowKit
def okTo (r s v:Nat→Int):Nat→Bool
 | 0=>true
 | k+1=>okTo r s v k&&(inR (r k) (-1000) 1000&&(inR (s k) (-1000) 1000&&inR (v k) (-1000) 1000))
theorem okTo_spec {r s v:Nat→Int}{n:Nat} (h:okTo r s v n=true):∀i,i<n→(-1000≤r i∧r i≤1000)∧(-1000≤s i∧s i≤1000)∧(-1000≤v i∧v i≤1000):=by
 induction n with
 | zero=>intro i hi;omega
 | succ n ih =>
  simp only[okTo,Bool.and_eq_true]at h
  intro i hi
  by_cases hin:i<n
  ·exact ih h.1 i hin
  ·obtain rfl:i=n:=by omega
   exact⟨inR_yes.1 h.2.1,inR_yes.1 h.2.2.1,inR_yes.1 h.2.2.2⟩
theorem okTo_bad {r s v:Nat→Int}{n k:Nat} (hk:k<n) (h:(inR (r k) (-1000) 1000&&(inR (s k) (-1000) 1000&&inR (v k) (-1000) 1000))=false):okTo r s v n=false:=by
 induction n with
 | zero=>omega
 | succ n ih =>
  by_cases hin:k<n
  ·simp only[okTo,ih hin,Bool.false_and]
  ·obtain rfl:k=n:=by omega
   simp only[okTo,h,Bool.and_false]
theorem okTo_up {r s v:Nat→Int}{k:Nat} (h:okTo r s v k=true) (h1:inR (r k) (-1000) 1000=true) (h2:inR (s k) (-1000) 1000=true) (h3:inR (v k) (-1000) 1000=true):okTo r s v (k+1)=true:=by
 simp only[okTo,h,h1,h2,h3,Bool.and_self]
@[irreducible] def chgQ (r s v:Nat→Int) (n m:Nat):Int :=
 if n=0 then 12 else if m≠n then 12 else if 20<n then 8 else if okTo r s v n=false then 2 else if (sums r s v n).den=0 then 28 else 0
@[irreducible] def chgA (r s v:Nat→Int) (n m:Nat):Int:=if chgQ r s v n m=0 then(sums r s v n).a else 0
@[irreducible] def chgB (r s v:Nat→Int) (n m:Nat):Int:=if chgQ r s v n m=0 then(sums r s v n).b else 0
@[irreducible] def chgD (r s v:Nat→Int) (n m:Nat):Int:=if chgQ r s v n m=0 then(sums r s v n).den else 0
theorem part_is (n:Int) (t:Bool) (w:World) (h:inR n (-1000) 1000=t):Calls Tryz.prog 145 #[.int .i64 n] w fun e w'=>e = .returned (.bool t)∧w'=w:=by
 have C:=Lib.hid (fun w=>fwithin_is n (-1000) 1000 t w h)
 clear h
 go_enter Tryz.func145,Tryz.ntmps145
 go_wp2_with fail
 refine(C.out _).mono ?_
 rintro e w' ⟨rfl,rfl⟩
 repeat' (first|go_values|go_skip|go_guarded|go_step|go_upon|(simp only[];go_simp))
 go_ret
 exact⟨rfl,rfl⟩
def ChgRet (q a b d:Int) (w:World) (E:Ending) (w':World):Prop:=E = .returned (.tuple #[.agg #[.int .i64 a,.int .i64 b,.int .i64 d],.int .i64 q])∧Below w.heap.size w w'
theorem sum_bd {r s v:Nat→Int}{n:Nat} (hn:n≤20) (h:okTo r s v n=true):(0≤(sums r s v n).xx∧(sums r s v n).xx≤20000000)∧(-20000000≤(sums r s v n).xy∧(sums r s v n).xy≤20000000)∧(0≤(sums r s v n).yy∧(sums r s v n).yy≤20000000) ∧
  (-20000000≤(sums r s v n).x∧(sums r s v n).x≤20000000)∧(-20000000≤(sums r s v n).y∧(sums r s v n).y≤20000000):=by
 have b:=sums_bd r s v 1000 n (okTo_spec h)
 have hk:(n:Int)*(1000*1000)≤20000000:=by omega
 generalize (n:Int)*(1000*1000)=M at *
 omega
def HidS (r s v:Nat→Int) (k:Nat) (T:Sums):Prop:=sums r s v k=T
set_option maxRecDepth 100000 in
set_option maxHeartbeats 8000000 in
theorem changeOf_any (p q:Option Addr) (n m cp cq:Nat) (Z Y:Nat→Nat→Int) (hn:n≤1000000) (hm:m≤1000000) (w:World) (hz:Zs p n 2 Z w) (hy:Zs q m 1 Y w) :
  Calls Tryz.prog 92 #[.slice p n cp,.slice q m cq] w fun E w'=>ChgRet (chgQ (Z · 0) (Z · 1) (Y · 0) n m) (chgA (Z · 0) (Z · 1) (Y · 0) n m) (chgB (Z · 0) (Z · 1) (Y · 0) n m) (chgD (Z · 0) (Z · 1) (Y · 0) n m) w E w':=by
 have eg:=enters_of Tryz.func145 (by kernel_rfl) rfl
 generalize hr:(Z · 0)=r
 generalize hs:(Z · 1)=s
 generalize hv:(Y · 0)=v
 have hr:∀i,Z i 0=r i:=fun i=>congrFun hr i
 have hs:∀i,Z i 1=s i:=fun i=>congrFun hs i
 have hv:∀i,Y i 0=v i:=fun i=>congrFun hv i
 obtain⟨Q,hQ⟩:∃Q,chgQ r s v n m=Q:=⟨_,rfl⟩
 obtain⟨A,hA⟩:∃Q,chgA r s v n m=Q:=⟨_,rfl⟩
 obtain⟨B,hB⟩:∃Q,chgB r s v n m=Q:=⟨_,rfl⟩
 obtain⟨D,hD⟩:∃Q,chgD r s v n m=Q:=⟨_,rfl⟩
 rw[hQ,hA,hB,hD]
 unfold chgA at hA;unfold chgB at hB;unfold chgD at hD
 rw[hQ]at hA hB hD
 unfold ChgRet
 have bad:Q≠0→A=0∧B=0∧D=0:=fun h=>by rw[if_neg h]at hA hB hD;exact⟨hA.symm,hB.symm,hD.symm⟩
 have bad:=Lib.hid bad
 by_cases c1:n=0
 ·have e:Q=12:=by rw[← hQ];unfold chgQ;rw[if_pos c1]
  obtain⟨rfl,rfl,rfl⟩:=bad.out (by rw[e];decide)
  subst c1;subst e
  clear hQ hA hB hD hz hy hr hs hv bad
  go_enter Tryz.func92,Tryz.ntmps92
  repeat' (first|go_values|go_skip|go_guarded|go_step|go_upon|(simp only[];go_simp))
  (with_reducible show bodyPost _ _ _ _ _ _);refine bodyPost_ret (by simp[results,Tryz.results92,go_sem, *];first|done|rfl) rfl ?_
  exact⟨rfl,blw⟩
 have c1':¬((n:Int)=0):=by omega
 have c1b:((n:Int)==0)=false:=by simpa using c1
 by_cases c2:m=n
 case neg =>
  have e:Q=12:=by rw[← hQ];unfold chgQ;rw[if_neg c1,if_pos c2]
  obtain⟨rfl,rfl,rfl⟩:=bad.out (by rw[e];decide)
  have c2':¬((m:Int)=n):=by omega
  have c2b:((m:Int) != n)=true:=by simpa using c2'
  subst e
  clear hQ hA hB hD hz hy hr hs hv bad
  go_enter Tryz.func92,Tryz.ntmps92
  repeat' (first|go_values|go_skip|go_guarded|go_step|go_upon|(simp only[];go_simp))
  (with_reducible show bodyPost _ _ _ _ _ _);refine bodyPost_ret (by simp[results,Tryz.results92,go_sem, *];first|done|rfl) rfl ?_
  exact⟨rfl,blw⟩
 subst c2
 have c2b:((m:Int) != m)=false:=by simp
 by_cases c3:20<m
 ·have e:Q=8:=by rw[← hQ];unfold chgQ;rw[if_neg c1,if_neg (not_not_intro rfl),if_pos c3]
  obtain⟨rfl,rfl,rfl⟩:=bad.out (by rw[e];decide)
  have c3':(20:Int)<m:=by omega
  subst e
  clear hQ hA hB hD hz hy hr hs hv bad c3
  go_enter Tryz.func92,Tryz.ntmps92
  repeat' (first|go_values|go_skip|go_guarded|go_step|go_upon|(simp only[];go_simp))
  (with_reducible show bodyPost _ _ _ _ _ _);refine bodyPost_ret (by simp[results,Tryz.results92,go_sem, *];first|done|rfl) rfl ?_
  exact⟨rfl,blw⟩
 have c3':¬((20:Int)<m):=by omega
 have hQ:(if okTo r s v m=false then 2 else if (sums r s v m).den=0 then 28 else 0)=Q:=by rw[← hQ];unfold chgQ;simp only[if_neg c1,if_neg c3,ne_eq,not_true_eq_false,if_false]
 have HQ:=Lib.hid hQ
 have HA:=Lib.hid hA
 have HB:=Lib.hid hB
 have HD:=Lib.hid hD
 clear hQ hA hB hD
 go_enter Tryz.func92,Tryz.ntmps92
 go_wp2_with fail
 go_loopw [7,8,9,10,11,35] (fun u0 u1 u2 u3 u4 i wr=>∃(k:Nat) (xx xy yy sx sy:Int),k≤m∧i = .int .i64 k∧u0 = .int .i64 xx∧u1 = .int .i64 xy∧u2 = .int .i64 yy∧u3 = .int .i64 sx∧u4 = .int .i64 sy∧HidS r s v k ⟨xx,xy,yy,sx,sy⟩∧Hid (okTo r s v k=true) ∧
  Below w.heap.size w wr∧w.heap.size<wr.heap.size∧(∀o,wr.cell? ⟨w.heap.size,o,none⟩=(#[.int .i64 0,.int .i64 0,.int .i64 0]:Array Value)[o]?)∧(∀o,wr.frozen? ⟨w.heap.size,o,none⟩=false)) (fun _ _ _ _ _ i _=>m-(intOf i).toNat)
 case atStart=>exact⟨0,0,0,0,0,0,by omega,rfl,rfl,rfl,rfl,rfl,rfl,rfl,Lib.hid rfl,blw,by first|(simp;done)|(simp;omega),fun o=>by go_simp,fun o=>by go_simp⟩
 case round =>
  obtain⟨k,xx,xy,yy,sx,sy,hk,rfl,rfl,rfl,rfl,rfl,rfl,HS,HO,Ah,Aq,An,Ao⟩:=hrel
  have Ap:w.heap.size<wr.heap.size+1:=by omega
  have Au:w.heap.size<wr.heap.size+1+1:=by omega
  by_cases hlt:k<m
  ·obtain⟨a,ha,ca⟩:=(hz.bel Ah).get k hlt
   obtain⟨b,hb,cb⟩:=(hy.bel Ah).get k hlt
   have r0:=ca 0 (by omega)
   have r1:=ca 1 (by omega)
   have v0:=cb 0 (by omega)
   rw[hr]at r0
   rw[hs]at r1
   rw[hv]at v0
   have la:=World.block_lt_of_cell? wr _ r0
   have lb:=World.block_lt_of_cell? wr _ v0
   rw[Nat.add_zero]at r0 v0 la lb
   rw[Nat.mul_one]at v0 lb
   rw[← add_off]at r1
   have na:¬(a.add (k*2)).block=wr.heap.size:=by omega
   have nb:¬(b.add k).block=wr.heap.size:=by omega
   have hlt2:(k:Int)<m:=by omega
   subst ha;subst hb
   clear ca cb hz hy hr hs hv
   by_cases g0:inR (r k) (-1000) 1000=true
   case neg =>
    have e:Q=2:=by rw[← HQ.out,if_pos (okTo_bad hlt (by simp[g0]))]
    obtain⟨rfl,rfl,rfl⟩:=bad.out (by rw[e];decide)
    subst e
    have g0':inR (r k) (-1000) 1000=false:=by simpa using g0
    have PT:=Lib.hid (fun w=>part_is _ _ w g0')
    clear HQ HA HB HD HS HO bad
    generalize r k=x at *
    generalize s k=y at *
    generalize v k=z at *
    go_wp2_with fail
    refine(PT.out _).mono ?_
    rintro e w' ⟨rfl,rfl⟩
    repeat' (first|go_values|go_skip|go_guarded|go_step|go_upon|(simp only[];go_simp))
    (with_reducible show bodyPost _ _ _ _ _ _);refine bodyPost_ret (by simp[results,Tryz.results92,go_sem, *];first|done|rfl) rfl ?_
    exact⟨rfl,blw⟩
   have P0:=Lib.hid (fun w=>part_is _ _ w g0)
   by_cases g1:inR (s k) (-1000) 1000=true
   case neg =>
    have e:Q=2:=by rw[← HQ.out,if_pos (okTo_bad hlt (by simp[g1]))]
    obtain⟨rfl,rfl,rfl⟩:=bad.out (by rw[e];decide)
    subst e
    have g1':inR (s k) (-1000) 1000=false:=by simpa using g1
    have PT:=Lib.hid (fun w=>part_is _ _ w g1')
    clear HQ HA HB HD HS HO bad
    generalize r k=x at *
    generalize s k=y at *
    generalize v k=z at *
    go_wp2_with fail
    refine(P0.out _).mono ?_
    rintro e w' ⟨rfl,rfl⟩
    go_wp2_with fail
    refine(PT.out _).mono ?_
    rintro e w' ⟨rfl,rfl⟩
    repeat' (first|go_values|go_skip|go_guarded|go_step|go_upon|(simp only[];go_simp))
    (with_reducible show bodyPost _ _ _ _ _ _);refine bodyPost_ret (by simp[results,Tryz.results92,go_sem, *];first|done|rfl) rfl ?_
    exact⟨rfl,blw⟩
   have P1:=Lib.hid (fun w=>part_is _ _ w g1)
   by_cases g2:inR (v k) (-1000) 1000=true
   case neg =>
    have e:Q=2:=by rw[← HQ.out,if_pos (okTo_bad hlt (by simp[g2]))]
    obtain⟨rfl,rfl,rfl⟩:=bad.out (by rw[e];decide)
    subst e
    have g2':inR (v k) (-1000) 1000=false:=by simpa using g2
    have PT:=Lib.hid (fun w=>part_is _ _ w g2')
    clear HQ HA HB HD HS HO bad
    generalize r k=x at *
    generalize s k=y at *
    generalize v k=z at *
    go_wp2_with fail
    refine(P0.out _).mono ?_
    rintro e w' ⟨rfl,rfl⟩
    go_wp2_with fail
    refine(P1.out _).mono ?_
    rintro e w' ⟨rfl,rfl⟩
    go_wp2_with fail
    refine(PT.out _).mono ?_
    rintro e w' ⟨rfl,rfl⟩
    repeat' (first|go_values|go_skip|go_guarded|go_step|go_upon|(simp only[];go_simp))
    (with_reducible show bodyPost _ _ _ _ _ _);refine bodyPost_ret (by simp[results,Tryz.results92,go_sem, *];first|done|rfl) rfl ?_
    exact⟨rfl,blw⟩
   have P2:=Lib.hid (fun w=>part_is _ _ w g2)
   have bd:=sum_bd (by omega) HO.out
   have HO':=Lib.hid (okTo_up HO.out g0 g1 g2)
   have HS':HidS r s v (k+1) ⟨xx+r k*r k,xy+r k*s k,yy+s k*s k,sx+r k*v k,sy+s k*v k⟩:=by
    unfold HidS at HS ⊢
    simp only[sums,HS]
   unfold HidS at HS
   rw[HS]at bd
   have HS':=Lib.hid HS'
   have g0:=inR_yes.1 g0
   have g1:=inR_yes.1 g1
   have g2:=inR_yes.1 g2
   clear HQ HA HB HD HS HO bad
   simp only at bd
   generalize r k=x at *
   generalize s k=y at *
   generalize v k=z at *
   have b1:=prod_bd g0.1 g0.2 g0.1 g0.2
   have b2:=prod_bd g0.1 g0.2 g1.1 g1.2
   have b3:=prod_bd g1.1 g1.2 g1.1 g1.2
   have b4:=prod_bd g0.1 g0.2 g2.1 g2.2
   have b5:=prod_bd g1.1 g1.2 g2.1 g2.2
   have W1:IntKind.i64.wrap (x*x)=x*x:=IntWalk.i64_in _ ⟨by omega,by omega⟩
   have W2:IntKind.i64.wrap (x*y)=x*y:=IntWalk.i64_in _ ⟨by omega,by omega⟩
   have W3:IntKind.i64.wrap (y*y)=y*y:=IntWalk.i64_in _ ⟨by omega,by omega⟩
   have W4:IntKind.i64.wrap (x*z)=x*z:=IntWalk.i64_in _ ⟨by omega,by omega⟩
   have W5:IntKind.i64.wrap (y*z)=y*z:=IntWalk.i64_in _ ⟨by omega,by omega⟩
   have W6:IntKind.i64.wrap (xx+x*x)=xx+x*x:=IntWalk.i64_in _ ⟨by omega,by omega⟩
   have W7:IntKind.i64.wrap (xy+x*y)=xy+x*y:=IntWalk.i64_in _ ⟨by omega,by omega⟩
   have W8:IntKind.i64.wrap (yy+y*y)=yy+y*y:=IntWalk.i64_in _ ⟨by omega,by omega⟩
   have W9:IntKind.i64.wrap (sx+x*z)=sx+x*z:=IntWalk.i64_in _ ⟨by omega,by omega⟩
   have WA:IntKind.i64.wrap (sy+y*z)=sy+y*z:=IntWalk.i64_in _ ⟨by omega,by omega⟩
   go_wp2_with fail
   refine(P0.out _).mono ?_
   rintro e w' ⟨rfl,rfl⟩
   go_wp2_with fail
   refine(P1.out _).mono ?_
   rintro e w' ⟨rfl,rfl⟩
   go_wp2_with fail
   refine(P2.out _).mono ?_
   rintro e w' ⟨rfl,rfl⟩
   go_wp2_with fail
   refine calm_all (by kernel_rfl) (by kernel_rfl) fun hG => ?_
   have A7:=hG (w.heap.size) lto
   have Ak:=hG (wr.heap.size) lto
   clear hG
   repeat (go_big_quiet_step (first|fail))
   refine wpQuiet_nil ?_
   intro w21 A0
   clear A7 Ak
   have A2:=A0.size
   (try simp at A2)
   have A6:=bl5 A0 (w.heap.size)
   have As:=bl5 A0 (wr.heap.size)
   go_wp2_with fail
   refine calm_all (by kernel_rfl) (by kernel_rfl) fun hG => ?_
   have A7:=hG (w.heap.size) lto
   have Ak:=hG (wr.heap.size) lto
   clear hG
   repeat (go_big_quiet_step (first|fail))
   refine wpQuiet_nil ?_
   intro w22 Ad
   clear A7 Ak
   have Ar:=Ad.size
   (try simp at Ar)
   have Av:=bl5 Ad (w.heap.size)
   have At:=bl5 Ad (wr.heap.size)
   go_wp2_with fail
   go_roundw
   case rel=>exact⟨k+1,xx+x*x,xy+x*y,yy+y*y,sx+x*z,sy+y*z,by omega,by first|(simp;done)|(simp;omega),rfl,rfl,rfl,rfl,rfl,HS'.out,HO',blw,by first|omega|(simp;done)|(simp;omega),fun o=>by go_simp,fun o=>by go_simp⟩
   case measure=>simp[intOf];omega
  ·obtain rfl:k=m:=by omega
   have ho:=HO.out
   have HQ:=HQ.out
   rw[ho,if_neg (by decide)]at HQ
   have bd:=sum_bd (by omega) HO.out
   unfold HidS at HS
   have HA:=HA.out
   have HB:=HB.out
   have HD:=HD.out
   have nn:=den_nonneg r s v k
   rw[HS]at bd HQ HA HB HD nn
   have ea:(⟨xx,xy,yy,sx,sy⟩:Sums).a=sx*yy-sy*xy:=rfl
   have eb:(⟨xx,xy,yy,sx,sy⟩:Sums).b=sy*xx-sx*xy:=rfl
   rw[ea]at HA
   rw[eb]at HB
   replace bd:(0≤xx∧xx≤20000000)∧(-20000000≤xy∧xy≤20000000)∧(0≤yy∧yy≤20000000)∧(-20000000≤sx∧sx≤20000000)∧(-20000000≤sy∧sy≤20000000):=bd
   have b1:=prod_bd (by omega : -20000000≤sx) bd.2.2.2.1.2 (by omega : -20000000≤yy) bd.2.2.1.2
   have b2:=prod_bd (by omega : -20000000≤sy) bd.2.2.2.2.2 (by omega : -20000000≤xy) bd.2.1.2
   have b3:=prod_bd (by omega : -20000000≤sy) bd.2.2.2.2.2 (by omega : -20000000≤xx) bd.1.2
   have b4:=prod_bd (by omega : -20000000≤sx) bd.2.2.2.1.2 (by omega : -20000000≤xy) bd.2.1.2
   have b5:=prod_bd (by omega : -20000000≤xx) bd.1.2 (by omega : -20000000≤yy) bd.2.2.1.2
   have b6:=prod_bd (by omega : -20000000≤xy) bd.2.1.2 (by omega : -20000000≤xy) bd.2.1.2
   have W1:wrap64 (sx*yy)=sx*yy:=IntWalk.wrap64_in _ ⟨by omega,by omega⟩
   have W2:wrap64 (sy*xy)=sy*xy:=IntWalk.wrap64_in _ ⟨by omega,by omega⟩
   have W3:wrap64 (sy*xx)=sy*xx:=IntWalk.wrap64_in _ ⟨by omega,by omega⟩
   have W4:wrap64 (sx*xy)=sx*xy:=IntWalk.wrap64_in _ ⟨by omega,by omega⟩
   have W5:wrap64 (xx*yy)=xx*yy:=IntWalk.wrap64_in _ ⟨by omega,by omega⟩
   have W6:wrap64 (xy*xy)=xy*xy:=IntWalk.wrap64_in _ ⟨by omega,by omega⟩
   have W7:wrap64 (sx*yy-sy*xy)=sx*yy-sy*xy:=IntWalk.wrap64_in _ ⟨by omega,by omega⟩
   have W8:wrap64 (sy*xx-sx*xy)=sy*xx-sx*xy:=IntWalk.wrap64_in _ ⟨by omega,by omega⟩
   have W9:wrap64 (xx*yy-xy*xy)=xx*yy-xy*xy:=IntWalk.wrap64_in _ ⟨by omega,by omega⟩
   have hlt2:¬((k:Int)<k):=by omega
   have ed:(⟨xx,xy,yy,sx,sy⟩:Sums).den=xx*yy-xy*xy:=rfl
   by_cases hd:(⟨xx,xy,yy,sx,sy⟩:Sums).den=0
   ·rw[if_pos hd]at HQ
    obtain⟨rfl,rfl,rfl⟩:=bad.out (by rw[← HQ];decide)
    subst HQ
    rw[ed]at hd
    have hd1:((xx*yy-xy*xy)==0)=true:=by simpa using hd
    clear HA HB HD bad hz hy hr hs hv HS HO ho nn hd ed ea eb
    repeat' (first|go_values|go_skip|go_guarded|go_step|go_upon|(simp only[];go_simp))
    (with_reducible show bodyPost _ _ _ _ _ _);refine bodyPost_ret (by simp[results,Tryz.results92,go_sem, *];first|done|rfl) rfl ?_
    exact⟨rfl,blw⟩
   ·rw[if_neg hd]at HQ
    rw[← HQ,if_pos rfl]at HA HB HD
    rw[ed]at hd HD
    subst HQ;subst HA;subst HB;subst HD
    have hd1:((xx*yy-xy*xy)==0)=false:=by simpa using hd
    clear bad hz hy hr hs hv HS HO ho nn hd ed ea eb
    repeat' (first|go_values|go_skip|go_guarded|go_step|go_upon|(simp only[];go_simp))
    (with_reducible show bodyPost _ _ _ _ _ _);refine bodyPost_ret (by simp[results,Tryz.results92,go_sem, *];first|done|rfl) rfl ?_
    exact⟨rfl,blw⟩
end Go.Proofs.YtjbfaaolfonmaaaGreat
namespace Go.Proofs.YtjbfaaolfonmaaaGreat
open Go Go.Sort Go.RowKit
structure Fit where
 an:Int
 ad:Int
 bn:Int
 bd:Int
 q:Int
@[irreducible] def smallC (r s v:Nat→Int) (n m:Nat):Fit :=
 if chgQ r s v n m=0 then
  if (smallQ (sums r s v n).a (sums r s v n).den&&smallQ (sums r s v n).b (sums r s v n).den)=true then⟨lowN (sums r s v n).a (sums r s v n).den,lowD (sums r s v n).a (sums r s v n).den,lowN (sums r s v n).b (sums r s v n).den,lowD (sums r s v n).b (sums r s v n).den,0⟩
  else⟨0,0,0,0,8⟩
 else⟨0,0,0,0,chgQ r s v n m⟩
def Fit.ret (f:Fit):Value := .tuple #[.agg #[.int .i64 f.an,.int .i64 f.ad,.int .i64 f.bn,.int .i64 f.bd],.int .i64 f.q]
theorem chg_zero {r s v:Nat→Int}{n m:Nat} (h:chgQ r s v n m=0):m=n∧1≤n∧n≤20∧okTo r s v n=true∧1≤(sums r s v n).den:=by
 unfold chgQ at h
 split at h
 ·exact absurd h (by decide)
 ·split at h
  ·exact absurd h (by decide)
  ·split at h
   ·exact absurd h (by decide)
   ·split at h
    ·exact absurd h (by decide)
    ·split at h
     ·exact absurd h (by decide)
     ·rename_i h1 h2 h3 h4 h5
      have:=den_nonneg r s v n
      exact⟨Classical.byContradiction h2,by omega,by omega,by simpa using h4,by omega⟩
theorem chg_bd {r s v:Nat→Int}{n:Nat} (hn:n≤20) (h:okTo r s v n=true):(-800000000000000≤(sums r s v n).a∧(sums r s v n).a≤800000000000000)∧(-800000000000000≤(sums r s v n).b∧(sums r s v n).b≤800000000000000)∧(sums r s v n).den≤800000000000000:=by
 obtain⟨⟨x0,x1⟩,⟨y0,y1⟩,⟨z0,z1⟩,⟨u0,u1⟩,⟨t0,t1⟩⟩:=sum_bd hn h
 have b1:=prod_bd u0 u1 (by omega : -20000000≤(sums r s v n).yy) z1
 have b2:=prod_bd t0 t1 y0 y1
 have b3:=prod_bd t0 t1 (by omega : -20000000≤(sums r s v n).xx) x1
 have b4:=prod_bd u0 u1 y0 y1
 have b5:=prod_bd (by omega : -20000000≤(sums r s v n).xx) x1 (by omega : -20000000≤(sums r s v n).yy) z1
 have b6:=prod_bd y0 y1 y0 y1
 unfold Sums.a Sums.b Sums.den
 omega
set_option maxRecDepth 100000 in
set_option maxHeartbeats 4000000 in
theorem SmallChange_any (p q:Option Addr) (n m cp cq:Nat) (Z Y:Nat→Nat→Int) (hn:n≤1000000) (hm:m≤1000000) (w:World) (hz:Zs p n 2 Z w) (hy:Zs q m 1 Y w) :
  Calls Tryz.prog 24 #[.slice p n cp,.slice q m cq] w fun E w'=>E = .returned (smallC (Z · 0) (Z · 1) (Y · 0) n m).ret∧Below w.heap.size w w':=by
 have CH:=fun w' (h:Below w.heap.size w w')=>changeOf_any p q n m cp cq Z Y hn hm w' (hz.bel h) (hy.bel h)
 unfold ChgRet at CH
 generalize (Z · 0)=r at *
 generalize (Z · 1)=s at *
 generalize (Y · 0)=v at *
 unfold Fit.ret
 by_cases hq:chgQ r s v n m=0
 ·have eA:chgA r s v n m=(sums r s v n).a:=by unfold chgA;rw[if_pos hq]
  have eB:chgB r s v n m=(sums r s v n).b:=by unfold chgB;rw[if_pos hq]
  have eD:chgD r s v n m=(sums r s v n).den:=by unfold chgD;rw[if_pos hq]
  obtain⟨rfl,_,h20,hok,hd⟩:=chg_zero hq
  obtain⟨⟨a0,a1⟩,⟨b0,b1⟩,d1⟩:=chg_bd h20 hok
  rw[eA,eB,eD,hq]at CH
  have SA:=Lib.hid (fun w=>fsmall_any (sums r s v m).a (sums r s v m).den hd (by omega) (by omega) (by omega) w)
  have SB:=Lib.hid (fun w=>fsmall_any (sums r s v m).b (sums r s v m).den hd (by omega) (by omega) (by omega) w)
  unfold smallC
  rw[if_pos hq]
  generalize (sums r s v m).a=A at *
  generalize (sums r s v m).b=B at *
  generalize (sums r s v m).den=D at *
  generalize lowN A D=an at *
  generalize lowD A D=ad at *
  generalize lowN B D=bn at *
  generalize lowD B D=bd at *
  have CH:=Lib.hid CH
  clear eA eB eD hq hok hz hy a0 a1 b0 b1 d1 hd h20
  generalize smallQ A D=t1 at *
  generalize smallQ B D=t2 at *
  cases t1
  case false =>
   rw[if_neg (by simp)]
   go_enter Tryz.func24,Tryz.ntmps24
   go_wp2_with fail
   refine(CH.out _ blw).mono ?_
   rintro e w1 ⟨rfl,A3⟩
   have A8:=A3.size
   (try simp at A8)
   have Af:=bl5 A3 (w.heap.size)
   go_wp2_with fail
   refine(SA.out _).mono ?_
   rintro e w2 ⟨rfl,A4⟩
   have Ab:=A4.size
   (try simp at Ab)
   have Al:=bl5 A4 (w.heap.size)
   have Ag:=bl5 A4 (w1.heap.size)
   go_wp2_with fail
   refine(SB.out _).mono ?_
   rintro e w3 ⟨rfl,A5⟩
   have Ac:=A5.size
   (try simp at Ac)
   have Am:=bl5 A5 (w.heap.size)
   repeat' (first|go_values|go_skip|go_guarded|go_step|go_upon|(simp only[];go_simp))
   (with_reducible show bodyPost _ _ _ _ _ _);refine bodyPost_ret (by simp[results,Tryz.results24,go_sem, *];first|done|rfl) rfl ?_
   exact⟨rfl,blw⟩
  case true =>
   cases t2
   case false =>
    rw[if_neg (by simp)]
    go_enter Tryz.func24,Tryz.ntmps24
    go_wp2_with fail
    refine(CH.out _ blw).mono ?_
    rintro e w1 ⟨rfl,A3⟩
    have A8:=A3.size
    (try simp at A8)
    have Af:=bl5 A3 (w.heap.size)
    go_wp2_with fail
    refine(SA.out _).mono ?_
    rintro e w2 ⟨rfl,A4⟩
    have Ab:=A4.size
    (try simp at Ab)
    have Al:=bl5 A4 (w.heap.size)
    have Ag:=bl5 A4 (w1.heap.size)
    go_wp2_with fail
    refine(SB.out _).mono ?_
    rintro e w3 ⟨rfl,A5⟩
    have Ac:=A5.size
    (try simp at Ac)
    have Am:=bl5 A5 (w.heap.size)
    repeat' (first|go_values|go_skip|go_guarded|go_step|go_upon|(simp only[];go_simp))
    (with_reducible show bodyPost _ _ _ _ _ _);refine bodyPost_ret (by simp[results,Tryz.results24,go_sem, *];first|done|rfl) rfl ?_
    exact⟨rfl,blw⟩
   case true =>
    rw[if_pos (by simp)]
    go_enter Tryz.func24,Tryz.ntmps24
    go_wp2_with fail
    refine(CH.out _ blw).mono ?_
    rintro e w1 ⟨rfl,A3⟩
    have A8:=A3.size
    (try simp at A8)
    have Af:=bl5 A3 (w.heap.size)
    go_wp2_with fail
    refine(SA.out _).mono ?_
    rintro e w2 ⟨rfl,A4⟩
    have Ab:=A4.size
    (try simp at Ab)
    have Al:=bl5 A4 (w.heap.size)
    have Ag:=bl5 A4 (w1.heap.size)
    go_wp2_with fail
    refine(SB.out _).mono ?_
    rintro e w3 ⟨rfl,A5⟩
    have Ac:=A5.size
    (try simp at Ac)
    have Am:=bl5 A5 (w.heap.size)
    have Aw:=bl5 A5 (w2.heap.size)
    repeat' (first|go_values|go_skip|go_guarded|go_step|go_upon|(simp only[];go_simp))
    (with_reducible show bodyPost _ _ _ _ _ _);refine bodyPost_ret (by simp[results,Tryz.results24,go_sem, *];first|done|rfl) rfl ?_
    exact⟨rfl,blw⟩
 ·have eA:chgA r s v n m=0:=by unfold chgA;rw[if_neg hq]
  have eB:chgB r s v n m=0:=by unfold chgB;rw[if_neg hq]
  have eD:chgD r s v n m=0:=by unfold chgD;rw[if_neg hq]
  rw[eA,eB,eD]at CH
  unfold smallC
  rw[if_neg hq]
  have hq1:(chgQ r s v n m != 0)=true:=by simpa using hq
  generalize chgQ r s v n m=Q at *
  have CH:=Lib.hid CH
  clear eA eB eD hq hz hy
  go_enter Tryz.func24,Tryz.ntmps24
  go_wp2_with fail
  refine(CH.out _ blw).mono ?_
  rintro e w1 ⟨rfl,A3⟩
  have A8:=A3.size
  (try simp at A8)
  have Af:=bl5 A3 (w.heap.size)
  repeat' (first|go_values|go_skip|go_guarded|go_step|go_upon|(simp only[];go_simp))
  (with_reducible show bodyPost _ _ _ _ _ _);refine bodyPost_ret (by simp[results,Tryz.results24,go_sem, *];first|done|rfl) rfl ?_
  exact⟨rfl,blw⟩
end Go.Proofs.YtjbfaaolfonmaaaGreat
