/- Joined: TrueOne TrueFac TrueAmp. -/
import Derived.Test.YticobgianbecpaaGreatDoorKEv
namespace Go.Proofs.YticobgianbecpaaGreatDoor
def Cq.inv (a:Cq):Cq:=⟨a.re/a.nrm, -a.im/a.nrm⟩
theorem Cq.nrm_pos {a:Cq} (h:a.nrm≠0):0<a.nrm:=by have:=a.nrm_nn;grind
theorem Cq.inv_mul {a:Cq} (h:a.nrm≠0):a.inv*a=Cq.one:=by
 have e1:=rdiv_mul a.re a.nrm h
 have e2:=rdiv_mul (-a.im) a.nrm h
 unfold Cq.inv
 generalize hn:a.nrm=N at *
 unfold Cq.nrm at hn
 generalize a.re/N=x at *
 generalize -a.im/N=y at *
 apply Cq.ext'
 ·simp
  have:(x*a.re-y*a.im-1)*N=0:=by grind
  rcases Rat.mul_eq_zero.1 this with k|k<;>grind
 ·simp
  have:(x*a.im+y*a.re)*N=0:=by grind
  rcases Rat.mul_eq_zero.1 this with k|k<;>grind
theorem in_qt' {R S:Res}{z w:Nat→Cq} (h:In R z) (k:In S w) (hq:(qt R S).q=0):In (qt R S) (fun n=>z n*(w n).inv)∧Ev fun n=>(w n).nrm≠0:=by
 have nz:Ev fun n=>(w n).nrm≠0:=by
  have e:qt R S=quoR R.a R.b R.c S.a S.b S.c:=by unfold qt quotM;exact two_val h.1.right k.1.right _
  rw[e]at hq
  unfold quoR at hq
  by_cases c:rt (S.a*S.a+S.b*S.b)≤S.c
  ·rw[if_pos c,(quad_bad 9).2.2.2]at hq;exact absurd hq (by decide)
  have fS:=k.1.right
  have sq:∀x:Int, -67108864≤x→x≤67108864→0≤x*x∧x*x≤4503599627370496:=fun x h1 h2=>by
   have a:=Int.mul_nonneg (show 0≤67108864-x by omega) (show 0≤67108864+x by omega)
   have e:(67108864-x)*(67108864+x)=4503599627370496-x*x:=by grind
   have n:0≤x*x:=(Int.le_total 0 x).elim (fun c=>Int.mul_nonneg c c) (fun c=>Int.mul_nonneg_of_nonpos_of_nonpos c c)
   omega
  have qa:=sq S.a fS.1.1 fS.1.2.1
  have qb:=sq S.b fS.1.2.2.1 fS.1.2.2.2
  have rs:=rint _ _ (rt_spec (n:=S.a*S.a+S.b*S.b) (by omega) (by omega)).1
  have cD:=rint _ _ (show S.c+1≤rt (S.a*S.a+S.b*S.b)by omega)
  refine(k.2.2 (1/2) (by decide +kernel)).mono fun n p hz => ?_
  have s0:=(right_rad fS).1
  push_cast at rs cD
  have f:=p.far (D:=(rt (S.a*S.a+S.b*S.b):Rat)) (by unfold Cq.nrm;grind) (by grind)
  rw[Cq.nrm_scale,hz]at f
  have:=rsq_mono (a:=1/2) (b:=(rt (S.a*S.a+S.b*S.b):Rat)-(S.c+1/2)) (by decide +kernel) (by grind)
  grind
 refine⟨in_qt h k (nz.mono fun n hn => ?_) hq,nz⟩
 rw[Cq.mul_assoc,Cq.inv_mul hn,Cq.mul_one]
theorem after_val {e:Int}{R:Res} (h:(after e R).q=0):e=0∧R.q=0∧after e R=R:=by
 unfold after at *
 by_cases c:e=0
 ·rw[if_pos c]at h ⊢;exact⟨c,h,rfl⟩
 ·rw[if_neg c,(quad_bad e).2.2.2]at h;exact absurd h c
structure PL where
 n:Int
 d:Int
 l:Int
structure PA where
 ix:Int
 s:Int
 po:Int
 wv:Int
 ls:List PL
 oi:Int
 ol:Int
structure PL.at (p:PL) (b:Box):Prop where
 i0:b.il≤p.n
 i1:p.n≤b.ih
 t0:b.tl≤p.d
 t1:p.d≤b.th
 l0:b.lo=p.l
inductive AllAt:List PL→List Box→Prop
 | nil:AllAt [] []
 | cons {p b ps bs} (h:PL.at p b) (t:AllAt ps bs):AllAt (p::ps) (b::bs)
structure PA.at (P:PA) (A:Ask):Prop where
 ix:A.ix=P.ix
 s0:A.sl≤P.s
 s1:P.s≤A.sh
 po:A.po=P.po
 w0:A.wl≤P.wv
 w1:P.wv≤A.wh
 ls:AllAt P.ls A.ls
 oi:A.oi=P.oi
 ol:A.ol=P.ol
def idN (p:PL):Cq:=⟨(p.n:Rat)/(10000:Int),(p.l:Rat)/(10000:Int)⟩
def siN (P:PA):Cq:=⟨(P.ix*P.s:Int)/100000000,0⟩
def nsN (P:PA) (p:PL):Cq:=idN p*idN p-siN P*siN P
theorem dnq_le {n:Rat}{a b:Int} (h:(a:Rat)≤n*b) (hb:0<b):((dn a b:Int):Rat)≤n:=by
 have u:dn a b*b≤a:=by unfold dn;exact Int.ediv_mul_le a (by omega)
 have u2:=rint _ _ u
 have b0:=Rat.intCast_lt_intCast.2 hb
 push_cast at u2 b0
 exact rle_of_mul b0 (by grind)
theorem le_up {n:Rat}{a b:Int} (h:n*b≤(a:Rat)) (hb:0<b):n≤((up a b:Int):Rat):=by
 have u:a≤up a b*b:=by
  unfold up
  have:=Int.lt_mul_ediv_self_add (x:=a+b-1) hb
  rw[Int.mul_comm]at this
  omega
 have u2:=rint _ _ u
 have b0:=Rat.intCast_lt_intCast.2 hb
 push_cast at u2 b0
 exact rle_of_mul b0 (by grind)
theorem in_idx {e:Int}{b:Box}{p:PL} (h:p.at b) (hq:(idxR e b).q=0):e=0∧In (idxR e b) fun _=>idN p:=by
 obtain⟨i0,i1,t0,t1,l0⟩:=h
 have j0:=rint _ _ i0
 have j1:=rint _ _ i1
 unfold idxR at hq ⊢
 have base:∀e:Int,(after e (ofRangeM (dn (b.il*1048576) 10000) (up (b.ih*1048576) 10000))).q=0→e=0∧In (after e (ofRangeM (dn (b.il*1048576) 10000) (up (b.ih*1048576) 10000))) fun _=>⟨(p.n:Rat)/(10000:Int),0⟩:=fun e hq=>by
  obtain⟨e0,q0,eq⟩:=after_val hq
  rw[eq]
  refine⟨e0,in_range (Btw.of fun n=>⟨dnq_le ?_ (by decide),le_up ?_ (by decide)⟩) q0⟩<;>(push_cast;grind)
 by_cases c:b.lo=0
 ·rw[if_pos c]at hq ⊢
  have z:idN p=⟨(p.n:Rat)/(10000:Int),0⟩:=by unfold idN;rw[← l0,c];apply Cq.ext'<;>simp<;>grind
  rw[z]
  exact base e hq
 ·rw[if_neg c]at hq ⊢
  obtain⟨t0,q0,eq⟩:=after_val hq
  rw[eq]
  obtain⟨k0,q1,eq1⟩:=after_val t0
  obtain⟨n0,q2,eq2⟩:=after_val k0
  obtain⟨e0,hn⟩:=base e n0
  have fk:In (ofFracM b.lo 10000) fun _=>⟨(b.lo:Rat)/(10000:Int),0⟩:=in_frac q2
  rw[eq1,eq2]at q0 ⊢
  rw[eq2]at q1
  refine⟨e0,(in_pl hn (in_tu fk q1) q0).congr (Ev.of fun n => ?_)⟩
  unfold idN
  rw[l0]
  apply Cq.ext'<;>simp<;>grind
theorem in_side {A:Ask}{P:PA} (h:P.at A) (hA:0≤A.ix) (hq:(sideR A).q=0):In (sideR A) fun _=>siN P:=by
 obtain⟨e1,s0,s1,_⟩:=h
 unfold sideR at hq ⊢
 have m0:=rint _ _ (Int.mul_le_mul_of_nonneg_left s0 hA)
 have m1:=rint _ _ (Int.mul_le_mul_of_nonneg_left s1 hA)
 unfold siN
 rw[e1]at hq hA m0 m1 ⊢
 push_cast at m0 m1
 refine in_range (Btw.of fun n=>⟨dnq_le ?_ (by decide),le_up ?_ (by decide)⟩) hq<;>(push_cast;grind)
theorem in_nsq {e:Int}{A:Ask}{P:PA}{b:Box}{p:PL} (hP:P.at A) (hA:0≤A.ix) (h:p.at b) (hq:(nsqR e A b).q=0):e=0∧In (nsqR e A b) fun _=>nsN P p:=by
 unfold nsqR at hq ⊢
 obtain⟨a1,q1,eq1⟩:=after_val hq
 obtain⟨a2,q2,eq2⟩:=after_val a1
 obtain⟨a3,q3,eq3⟩:=after_val a2
 obtain⟨a4,q4,eq4⟩:=after_val a3
 obtain⟨e0,hn⟩:=in_idx h a4
 have hs:=in_side hP hA q4
 refine⟨e0,?_⟩
 rw[eq1]
 rw[eq2,eq3,eq4]at q1 ⊢
 rw[eq4]at q2
 exact in_mi (in_ti hn hn q3) (in_ti hs hs q2) q1
structure RootSeq (v:Cq) (y:Nat→Cq):Prop where
 re:∀n,0≤(y n).re
 im:∀n,0≤(y n).im
 near:∀d:Rat,0<d→Ev fun n=>Cq.Near (y n*y n) v d
 real:v.im=0→∀n,(0≤v.re→(y n).im=0)∧(v.re≤0→(y n).re=0)
theorem small_ev (d:Rat) (hd:0<d):Ev fun n=>(1:Rat)/(n+1)≤d :=
 (near_small (1/1048576) (by decide +kernel) d hd).mono fun n h=>by
  have e:1048576*(1/1048576*((1:Rat)/(n+1)))=(1:Rat)/(n+1):=by
   generalize (1:Rat)/(n+1)=x;grind
  rw[e]at h;exact h
theorem inv_pos (n:Nat):0<(1:Rat)/(n+1):=by
 have:=Rat.natCast_nonneg (a:=n)
 exact(Rat.lt_div_iff (by grind)).2 (by grind)
theorem sqrt_seq (v:Rat) (hv:0≤v):∃s:Nat→Rat,(∀n,0≤s n)∧(v=0→∀n,s n=0)∧∀d:Rat,0<d→Ev fun n=>v-d≤s n*s n∧s n*s n≤v:=by
 refine⟨fun n=>Classical.choose (sqrt_dn v hv _ (inv_pos n)),fun n=>(Classical.choose_spec (sqrt_dn v hv _ (inv_pos n))).1,fun h n => ?_,fun d hd => ?_⟩
 ·show Classical.choose (sqrt_dn v hv _ (inv_pos n))=0
  have t:=(Classical.choose_spec (sqrt_dn v hv _ (inv_pos n))).2.1
  generalize Classical.choose (sqrt_dn v hv _ (inv_pos n))=s at *
  rw[h]at t
  have:=rsq s
  have:s*s=0:=by grind
  rcases Rat.mul_eq_zero.1 this with k|k<;>exact k
 ·refine(small_ev d hd).mono fun n hn => ?_
  have t:=(Classical.choose_spec (sqrt_dn v hv _ (inv_pos n))).2
  dsimp only
  generalize Classical.choose (sqrt_dn v hv _ (inv_pos n))=s at *
  grind
theorem root_real {v:Rat} : ∃y,RootSeq ⟨v,0⟩ y:=by
 by_cases c:0≤v
 ·obtain⟨s,s0,s1,s2⟩:=sqrt_seq v c
  refine⟨fun n=>⟨s n,0⟩,s0,fun _=>Rat.le_refl,fun d hd=>(s2 d hd).mono fun n ⟨p,q⟩=>⟨by grind,?_⟩,fun _ n=>⟨fun _=>rfl,fun h=>s1 (by dsimp only at h;grind) n⟩⟩
  unfold Cq.nrm
  simp only[Cq.sub_re,Cq.sub_im,Cq.mul_re,Cq.mul_im]
  have:=near_real (x:=s n*s n) (m:=v) (r:=d) (by grind) (by grind) (by grind)
  grind
 ·obtain⟨s,s0,s1,s2⟩:=sqrt_seq (-v) (by grind)
  refine⟨fun n=>⟨0,s n⟩,fun _=>Rat.le_refl,s0,fun d hd=>(s2 d hd).mono fun n ⟨p,q⟩=>⟨by grind,?_⟩,fun _ n=>⟨fun h=>absurd h c,fun _=>rfl⟩⟩
  unfold Cq.nrm
  simp only[Cq.sub_re,Cq.sub_im,Cq.mul_re,Cq.mul_im]
  have:=near_real (x := -(s n*s n)) (m:=v) (r:=d) (by grind) (by grind) (by grind)
  grind
theorem root_complex {a b:Rat} (hb:0<b) (e:Rat) (he:0<e):∃y:Cq,0≤y.re∧0≤y.im∧Cq.Near (y*y) ⟨a,b⟩ e:=by
 obtain⟨K,hK⟩:=great_nat (1/b+1)
 have b1:=rdiv_mul 1 b (by grind)
 have K1:1≤(K:Rat):=by
  have:0<1/b:=(Rat.lt_div_iff hb).2 (by grind)
  grind
 have kb:1≤(K:Rat)*b:=by
  have:=Rat.mul_le_mul_of_nonneg_right (show 1/b≤(K:Rat)by grind) (show 0≤b by grind)
  grind
 generalize (K:Rat)=k at *
 have kkb:1≤k*k*b:=by
  have:=Rat.mul_le_mul_of_nonneg_right K1 (show 0≤k*b by grind)
  grind
 obtain⟨c,hc,c0⟩:∃c,(c=a∨c = -a)∧0≤c:=by
  rcases Rat.le_total (a:=0) (b:=a)with h|h
  ·exact⟨a,.inl rfl,h⟩
  ·exact⟨-a,.inr rfl,by grind⟩
 have kk:=Rat.mul_nonneg (show 0≤k by grind) (show 0≤k by grind)
 obtain⟨e',e0,e1,e2⟩:∃e',0<e'∧e'≤1∧e'≤e:=by
  rcases Rat.le_total (a:=e) (b:=1)with h|h
  ·exact⟨e,he,h,Rat.le_refl⟩
  ·exact⟨1,by decide,Rat.le_refl,h⟩
 obtain⟨s,t,s0,st,h1,h2⟩:=root_of (a:=k*k*c) (b:=k*k*b) (Rat.mul_nonneg kk c0) (by have:=rsq (k*k*c);have:=rsq_mono (a:=1) (by decide) kkb;grind) e0 e1
 have t0:0≤t:=by
  rcases Rat.le_total (a:=0) (b:=t)with h|h
  ·exact h
  ·have:=Rat.mul_le_mul_of_nonneg_left h (show 0≤s by grind);grind
 have ks:=rdiv_mul s k (by grind)
 have kt:=rdiv_mul t k (by grind)
 have sk0:0≤s/k:=rle_of_mul (show 0<k by grind) (by grind)
 have tk0:0≤t/k:=rle_of_mul (show 0<k by grind) (by grind)
 generalize s/k=x at *
 generalize t/k=y at *
 have k1:1≤k*k:=by have:=rsq_mono (a:=1) (by decide) K1;grind
 have kp:0<k*k:=by grind
 have f1:2*x*y=b:=by
  have:(2*x*y-b)*(k*k)=0:=by rw[← ks,← kt]at st;grind
  rcases Rat.mul_eq_zero.1 this with h|h<;>grind
 have f2:0≤x*x-y*y-c:=rle_of_mul kp (by rw[← ks,← kt]at h1;grind)
 have f3:x*x-y*y-c≤e:=by
  refine rle_of_mul kp ?_
  have:=Rat.mul_le_mul_of_nonneg_left k1 (show 0≤e by grind)
  rw[← ks,← kt]at h2
  grind
 have sq:=rsq_mono f2 f3
 rcases hc with rfl|hc
 ·refine⟨⟨x,y⟩,sk0,tk0,by grind,?_⟩
  unfold Cq.nrm
  simp only[Cq.sub_re,Cq.sub_im,Cq.mul_re,Cq.mul_im]
  rw[show x*y+y*x-b=0 by grind]
  clear h1 h2 st ks kt b1 hK
  grind
 ·refine⟨⟨y,x⟩,tk0,sk0,by grind,?_⟩
  unfold Cq.nrm
  simp only[Cq.sub_re,Cq.sub_im,Cq.mul_re,Cq.mul_im]
  rw[show y*x+x*y-b=0 by grind,show y*y-x*x-a = -(x*x-y*y-c)by grind]
  clear h1 h2 st ks kt b1 hK
  grind
theorem root_seq {v:Cq} (h:0≤v.im):∃y,RootSeq v y:=by
 by_cases c:v.im=0
 ·have e:v=⟨v.re,0⟩:=Cq.ext' rfl c
  rw[e];exact root_real
 ·have e:v=⟨v.re,v.im⟩:=rfl
  have hb:0<v.im:=by grind
  refine⟨fun n=>Classical.choose (root_complex (a:=v.re) hb _ (inv_pos n)),fun n=>(Classical.choose_spec (root_complex (a:=v.re) hb _ (inv_pos n))).1,fun n=>(Classical.choose_spec (root_complex (a:=v.re) hb _ (inv_pos n))).2.1,fun d hd=>(small_ev d hd).mono fun n hn => ?_,fun k=>absurd k c⟩
  exact(Classical.choose_spec (root_complex (a:=v.re) hb _ (inv_pos n))).2.2.le hn
open Classical in
noncomputable def rootN (v:Cq):Nat→Cq:=if h:∃y,RootSeq v y then Classical.choose h else fun _=>Cq.one
theorem rootN_spec {v:Cq} (h:0≤v.im):RootSeq v (rootN v):=by
 unfold rootN
 rw[dif_pos (root_seq h)]
 exact Classical.choose_spec (root_seq h)
noncomputable def noN (P:PA) (p:PL):Nat→Cq:=rootN (nsN P p)
noncomputable def adN (P:PA) (p:PL) (n:Nat):Cq:=if P.po=0 then noN P p n else idN p*idN p*(noN P p n).inv
theorem ns_im (P:PA) (p:PL):(nsN P p).im=2*((p.n:Rat)/(10000:Int))*((p.l:Rat)/(10000:Int)):=by
 unfold nsN idN siN;simp;grind
theorem ns_nn {P:PA}{p:PL} (h0:0≤p.n) (h1:0≤p.l):0≤(nsN P p).im:=by
 rw[ns_im]
 have a:=rint _ _ h0
 have b:=rint _ _ h1
 push_cast at a b ⊢
 have:=Rat.mul_nonneg (show(0:Rat)≤(p.n:Rat)/10000 by grind) (show(0:Rat)≤(p.l:Rat)/10000 by grind)
 grind
theorem rle_all {x y:Rat} (h:∀d:Rat,0<d→x≤y+d):x≤y:=by
 rcases Rat.le_total (a:=x) (b:=y)with c|c
 ·exact c
 ·have:=h ((x-y)/2+1)
  by_cases e:x=y
  ·grind
  ·have:=h ((x-y)/2) (by grind)
   grind
theorem In.near {R:Res}{z w:Nat→Cq} (h:In R z) (k:∀d:Rat,0<d→Ev fun n=>Cq.Near (w n) (z n) d):In R w :=
 ⟨h.1,h.2.1,fun d hd=>((h.2.2 (d/2) (by grind)).and (k (d/2097152) (by grind))).mono fun n ⟨p,q⟩=>((q.scale 1048576 (by decide)).trans p).le (by grind)⟩
theorem In.parts {R:Res}{z:Cq} (h:In R fun _=>z):(((R.a-R.c:Int):Rat)≤1048576*z.re∧1048576*z.re≤((R.a+R.c:Int):Rat)):=by
 have key:∀d:Rat,0<d → -(R.c+d)≤1048576*z.re-R.a∧1048576*z.re-R.a≤R.c+d:=fun d hd=>by
  obtain⟨n,p⟩:=(h.2.2 d hd).ex
  have p2:=p.2
  unfold Cq.nrm at p2
  simp only[Cq.sub_re,Cq.sub_im,Cq.scale_re,Cq.scale_im]at p2
  have:=rsq (1048576*z.im-R.b)
  exact rabs_of_sq p.1 (by grind)
 push_cast
 exact⟨rle_all fun d hd=>by have:=(key d hd).1;grind,rle_all fun d hd=>by have:=(key d hd).2;grind⟩
theorem in_nor {e:Int}{A:Ask}{P:PA}{b:Box}{p:PL} (hP:P.at A) (hA:0≤A.ix) (h:p.at b) (n0:0≤p.n) (l0:0≤p.l) (hq:(norR e A b).q=0) :
  e=0∧In (norR e A b) (noN P p)∧In (nsqR e A b) fun _=>nsN P p:=by
 unfold norR at hq ⊢
 obtain⟨a1,q1,eq1⟩:=after_val hq
 obtain⟨e0,hv⟩:=in_nsq hP hA h a1
 refine⟨e0,?_,hv⟩
 rw[eq1]
 have rs:=rootN_spec (ns_nn (P:=P) n0 l0)
 by_cases c:b.lo=0
 ·rw[if_pos c]at q1 ⊢
  have im0:(nsN P p).im=0:=by rw[ns_im,← h.l0,c];push_cast;grind
  have rl:=rs.real im0
  obtain⟨p1,p2⟩:=hv.parts
  have rn:=rs.near
  have r0:=rs.re
  have r1:=rs.im
  unfold noN
  generalize rootN (nsN P p)=y at *
  generalize nsN P p=v at *
  have key:=in_real (y:=fun n=>(y n).re+(y n).im) (v:=v.re) (fun n=>by have:=r0 n;have:=r1 n;grind) p1 p2 q1 ?_ ?_
  ·refine key.congr (Ev.of fun n => ?_)
   by_cases v0:0≤v.re
   ·simp only[v0,if_true]
    have:=(rl n).1 v0
    apply Cq.ext'
    ·dsimp only;grind
    ·dsimp only;exact this.symm
   ·simp only[v0,if_false]
    have:=(rl n).2 (by grind)
    apply Cq.ext'
    ·dsimp only;exact this.symm
    ·dsimp only;grind
  ·by_cases v0:0≤v.re
   ·refine .inl ⟨v0,fun d hd=>(rn (d/1048576) (by grind)).mono fun n k => ?_⟩
    have:=(rl n).1 v0
    have k2:=k.2
    unfold Cq.nrm at k2
    simp only[Cq.sub_re,Cq.sub_im,Cq.mul_re,Cq.mul_im]at k2
    rw[this]at k2
    dsimp only
    rw[this]
    have:=rabs_of_sq k.1 (a:=(y n).re*(y n).re-v.re) (by rw[im0]at k2;grind)
    grind
   ·refine .inr ⟨by grind,fun d hd=>(rn (d/1048576) (by grind)).mono fun n k => ?_⟩
    have:=(rl n).2 (by grind)
    have k2:=k.2
    unfold Cq.nrm at k2
    simp only[Cq.sub_re,Cq.sub_im,Cq.mul_re,Cq.mul_im]at k2
    rw[this]at k2
    dsimp only
    rw[this]
    have:=rabs_of_sq k.1 (a:=(y n).im*(y n).im+v.re) (by rw[im0]at k2;grind)
    push_cast at p1 p2 ⊢
    grind
  ·intro v0 n
   have:=(rl n).1 (by grind)
   have:=(rl n).2 (by grind)
   grind
 ·rw[if_neg c]at q1 ⊢
  exact in_ro (fun n=>⟨rs.re n,rs.im n⟩) (hv.near rs.near) q1
theorem in_adm {e:Int}{A:Ask}{P:PA}{b:Box}{p:PL} (hP:P.at A) (hA:0≤A.ix) (h:p.at b) (n0:0≤p.n) (l0:0≤p.l) (hq:(admR e A b).q=0) :
  e=0∧In (admR e A b) (adN P p)∧(P.po≠0→Ev fun n=>(noN P p n).nrm≠0):=by
 unfold admR at hq ⊢
 unfold adN
 rw[← hP.po]
 by_cases c:A.po=0
 ·rw[if_pos c]at hq ⊢
  obtain⟨e0,hn,_⟩:=in_nor hP hA h n0 l0 hq
  refine⟨e0,?_,fun k=>absurd c k⟩
  simp only[c,if_true]
  exact hn
 ·rw[if_neg c]at hq ⊢
  obtain⟨a1,q1,eq1⟩:=after_val hq
  obtain⟨a2,q2,eq2⟩:=after_val a1
  obtain⟨a3,hn⟩:=in_idx h a2
  obtain⟨e0,hq0,_⟩:=in_nor hP hA h n0 l0 a3
  rw[eq1]
  rw[eq2]at q1 ⊢
  obtain⟨k1,k2⟩:=in_qt' (in_ti hn hn q2) hq0 q1
  refine⟨e0,?_,fun _=>k2⟩
  simp only[c,if_false]
  exact k1
end Go.Proofs.YticobgianbecpaaGreatDoor
namespace Go.Proofs.YticobgianbecpaaGreatDoor
def IsFlo (t:Nat→Rat) (L:Int):Prop:=(∀d:Rat,0<d→Ev fun n=>(L:Rat)-d≤t n)∧∀k:Int,(∀d:Rat,0<d→Ev fun n=>(k:Rat)-d≤t n)→k≤L
theorem flo_ex {t:Nat→Rat} (h0:∀n,0≤t n){B:Nat} (hB:Ev fun n=>t n≤B):∃L:Int,IsFlo t L:=by
 have key:∀m:Nat,∃L:Nat,(∀d:Rat,0<d→Ev fun n=>(L:Rat)-d≤t n)∧∀k:Nat,k≤m→(∀d:Rat,0<d→Ev fun n=>(k:Rat)-d≤t n)→k≤L:=fun m=>by
  induction m with
  | zero=>exact⟨0,fun d hd=>Ev.of fun n=>by have:=h0 n;simp;grind,fun k hk _=>hk⟩
  | succ m ih =>
   obtain⟨L,h1,h2⟩:=ih
   by_cases c:∀d:Rat,0<d→Ev fun n=>((m+1:Nat):Rat)-d≤t n
   ·exact⟨m+1,c,fun k hk _=>hk⟩
   ·refine⟨L,h1,fun k hk hh => ?_⟩
    by_cases e:k=m+1
    ·rw[e]at hh;exact absurd hh c
    ·exact h2 k (by omega) hh
 obtain⟨L,h1,h2⟩:=key (B+1)
 refine⟨L,h1,fun k hk => ?_⟩
 rcases Int.lt_or_le k 0 with c|c
 ·omega
 ·have kb:k≤(B:Int)+1:=by
   obtain⟨n,p,q⟩:=((hk (1/2) (by decide +kernel)).and hB).ex
   have:(k:Rat)<((B+1:Int):Rat):=by
    have e:((B:Int):Rat)=(B:Rat):=rfl
    push_cast
    grind
   have:=Rat.intCast_lt_intCast.1 this
   omega
  obtain⟨j,rfl⟩:∃j:Nat,k=j:=⟨k.toNat,by omega⟩
  have:=h2 j (by omega) hk
  omega
open Classical in
noncomputable def flo (t:Nat→Rat):Int:=if h:∃L,IsFlo t L then Classical.choose h else 0
theorem flo_spec {t:Nat→Rat} (h0:∀n,0≤t n){B:Nat} (hB:Ev fun n=>t n≤B):IsFlo t (flo t):=by
 unfold flo
 rw[dif_pos (flo_ex h0 hB)]
 exact Classical.choose_spec (flo_ex h0 hB)
theorem flo_btw {x:Nat→Rat}{α β tl th d wl wh w:Int} (x0:∀n,0≤x n) (hx:∀δ:Rat,0<δ→Ev fun n=>(α:Rat)-δ≤1048576*x n∧1048576*x n≤β+δ)
  (t0:0≤tl) (t1:tl≤d) (t2:d≤th) (w0:1≤wl) (w1:wl≤w) (w2:w≤wh){t:Nat→Rat} (ht:∀n,t n*w=4194304*x n*d) :
  dn (4*pos α*tl) wh≤flo t∧flo t≤up (4*pos β*th) wl∧0≤flo t:=by
 have i0:=rint _ _ t0
 have i1:=rint _ _ t1
 have i2:=rint _ _ t2
 have i3:=rint _ _ w0
 have i4:=rint _ _ w1
 have i5:=rint _ _ w2
 push_cast at i0 i1 i2 i3 i4 i5
 have w00:0<(w:Rat):=by grind
 have tn:∀n,0≤t n:=fun n=>by
  refine rle_of_mul w00 ?_
  rw[ht]
  have:=Rat.mul_nonneg (x0 n) (show(0:Rat)≤(d:Rat)by grind)
  grind
 have pβ:β≤pos β∧0≤pos β:=by unfold pos;split<;>omega
 have j1:=rint _ _ pβ.1
 have j2:=rint _ _ pβ.2
 push_cast at j2
 have above:∀δ:Rat,0<δ→Ev fun n=>t n≤((up (4*pos β*th) wl:Int):Rat)+4*th*δ:=fun δ hδ=>(hx δ hδ).mono fun n ⟨_,q⟩=>by
  have u:4*pos β*th≤up (4*pos β*th) wl*wl:=by
   unfold up
   generalize 4*pos β*th=X
   have:=Int.lt_mul_ediv_self_add (x:=X+wl-1) (show 0<wl by omega)
   rw[Int.mul_comm]at this
   omega
  have u2:=rint _ _ u
  push_cast at u2
  generalize (up (4*pos β*th) wl:Rat)=U at *
  generalize (pos β:Rat)=b at *
  have U0:0≤U:=by
   refine rle_of_mul (show 0<(wl:Rat)by grind) ?_
   have:=Rat.mul_nonneg j2 (show(0:Rat)≤(th:Rat)by grind)
   grind
  have xb:1048576*x n≤b+δ:=by grind
  refine rle_of_mul w00 ?_
  rw[ht]
  have m1:=rmul_le (a:=1048576*x n) (b:=b+δ) (c:=(d:Rat)) (d:=(th:Rat)) (by have:=x0 n;grind) xb (by grind) i2
  have m2:=Rat.mul_le_mul_of_nonneg_left i4 U0
  have m3:=Rat.mul_le_mul_of_nonneg_left (show(1:Rat)≤w by grind) (Rat.mul_nonneg (show(0:Rat)≤(th:Rat)by grind) (show 0≤δ by grind))
  grind
 obtain⟨B,hB⟩:=great_nat (((up (4*pos β*th) wl:Int):Rat)+4*th*1)
 have sp:=flo_spec tn (B:=B) ((above 1 (by decide)).mono fun n h=>by grind)
 refine⟨sp.2 _ fun δ hδ => ?_,?_,sp.2 0 fun δ hδ=>Ev.of fun n=>by have:=tn n;push_cast;grind⟩
 ·have pα:(α≤0∧pos α=0)∨(0<α∧pos α=α):=by unfold pos;split<;>omega
  have v:dn (4*pos α*tl) wh*wh≤4*pos α*tl:=by unfold dn;exact Int.ediv_mul_le _ (by omega)
  have v2:=rint _ _ v
  push_cast at v2
  rcases pα with⟨c,e⟩|⟨c,e⟩
  ·have z:dn (4*pos α*tl) wh=0:=by rw[e];unfold dn;simp
   rw[z]
   exact Ev.of fun n=>by have:=tn n;push_cast;grind
  ·rw[e]at v2 ⊢
   have c':=rint _ _ (show 1≤α by omega)
   push_cast at c'
   have g0:(0:Rat)<4*tl+4:=by grind
   have dd:=rdiv_mul δ (4*tl+4) (by grind)
   have d0:0<δ/(4*tl+4):=(Rat.lt_div_iff g0).2 (by grind)
   obtain⟨ε,e0,e1,e2⟩:∃ε:Rat,0<ε∧ε≤1∧ε≤δ/(4*tl+4):=by
    rcases Rat.le_total (a:=δ/(4*tl+4)) (b:=1)with h|h
    ·exact⟨_,d0,h,Rat.le_refl⟩
    ·exact⟨1,by decide,Rat.le_refl,h⟩
   refine(hx ε e0).mono fun n ⟨q,_⟩ => ?_
   generalize (dn (4*α*tl) wh:Rat)=D at *
   refine rle_of_mul w00 ?_
   rw[ht]
   have m1:=rmul_le (a:=(α:Rat)-ε) (b:=1048576*x n) (c:=(tl:Rat)) (d:=(d:Rat)) (by grind) q i0 i1
   have m2:=Rat.mul_le_mul_of_nonneg_right e2 (show 0≤(4*tl+4:Rat)by grind)
   rw[dd]at m2
   have m3:=Rat.mul_le_mul_of_nonneg_left (show(1:Rat)≤w by grind) (show 0≤δ by grind)
   rcases Rat.le_total (a:=0) (b:=D)with k|k
   ·have:=Rat.mul_le_mul_of_nonneg_left i5 k
    grind
   ·have:=Rat.mul_nonneg (show 0 ≤ -D by grind) (show(0:Rat)≤w by grind)
    have:=Rat.mul_nonneg (show(0:Rat)≤α-ε by grind) i0
    grind
 ·refine int_le (1+4*th) (by have:(0:Rat)≤th:=by grind
                             grind) fun δ hδ _ => ?_
  obtain⟨n,p,q⟩:=((sp.1 δ hδ).and (above δ hδ)).ex
  grind
theorem In.re {R:Res}{z:Nat→Cq} (h:In R z):∀δ:Rat,0<δ→Ev fun n=>((R.a-R.c:Int):Rat)-δ≤1048576*(z n).re∧1048576*(z n).re≤((R.a+R.c:Int):Rat)+δ:=fun δ hδ =>
 (h.2.2 δ hδ).mono fun n p=>by
  have p2:=p.2
  unfold Cq.nrm at p2
  simp only[Cq.sub_re,Cq.sub_im,Cq.scale_re,Cq.scale_im]at p2
  have:=rsq (1048576*(z n).im-R.b)
  have:=rabs_of_sq p.1 (a:=1048576*(z n).re-R.a) (by grind)
  push_cast
  grind
theorem In.im {R:Res}{z:Nat→Cq} (h:In R z):∀δ:Rat,0<δ→Ev fun n=>((R.b-R.c:Int):Rat)-δ≤1048576*(z n).im∧1048576*(z n).im≤((R.b+R.c:Int):Rat)+δ:=fun δ hδ =>
 (h.2.2 δ hδ).mono fun n p=>by
  have p2:=p.2
  unfold Cq.nrm at p2
  simp only[Cq.sub_re,Cq.sub_im,Cq.scale_re,Cq.scale_im]at p2
  have:=rsq (1048576*(z n).re-R.a)
  have:=rabs_of_sq p.1 (a:=1048576*(z n).im-R.b) (by grind)
  push_cast
  grind
noncomputable def turT (P:PA) (p:PL) (n:Nat):Rat:=4194304*(noN P p n).re*p.d/P.wv
noncomputable def fadT (P:PA) (p:PL) (n:Nat):Rat:=4194304*(noN P p n).im*p.d/P.wv
noncomputable def turL (P:PA) (p:PL):Int:=flo (turT P p)
noncomputable def fadL (P:PA) (p:PL):Int:=flo (fadT P p)
theorem tur_btw {e:Int}{A:Ask}{P:PA}{b:Box}{p:PL} (hP:P.at A) (hA:0≤A.ix) (h:p.at b) (n0:0≤p.n) (l0:0≤p.l) (t0:0≤b.tl) (w0:1≤A.wl) (hq:(norR e A b).q=0) :
  (turR 0 e A b≤turL P p∧turL P p≤turR 1 e A b∧0≤turL P p)∧(turR 2 e A b≤fadL P p∧fadL P p≤turR 3 e A b∧0≤fadL P p)∧0≤turR 2 e A b:=by
 obtain⟨e0,hn,hv⟩:=in_nor hP hA h n0 l0 hq
 have rs:=rootN_spec (ns_nn (P:=P) n0 l0)
 have wv:(1:Int)≤P.wv:=by have:=hP.w0;omega
 have wq:=rint _ _ wv
 push_cast at wq
 have hT:∀n,turT P p n*P.wv=4194304*(noN P p n).re*p.d:=fun n=>by unfold turT;exact rdiv_mul _ _ (by grind)
 have hF:∀n,fadT P p n*P.wv=4194304*(noN P p n).im*p.d:=fun n=>by unfold fadT;exact rdiv_mul _ _ (by grind)
 have dz:∀x:Int,dn (4*pos 0*x) A.wh=0:=fun x=>by unfold dn pos;simp
 have uz:∀x:Int,up (4*pos 0*x) A.wl=0:=fun x=>by unfold up pos;simp;exact Int.ediv_eq_zero_of_lt (by omega) (by omega)
 have zero:∀(y:Nat→Rat) (t:Nat→Rat),(∀n,y n=0)→(∀n,t n*P.wv=4194304*y n*p.d)→(0≤flo t∧flo t≤0∧0≤flo t):=fun y t hy ht=>by
  have:=flo_btw (x:=y) (α:=0) (β:=0) (t:=t) (fun n=>by rw[hy];exact Rat.le_refl) (fun δ hδ=>Ev.of fun n=>by rw[hy];push_cast;grind) t0 h.t0 h.t1 w0 hP.w0 hP.w1 ht
  rw[dz,uz]at this
  exact this
 have gt:=flo_btw (fun n=>rs.re n) hn.re t0 h.t0 h.t1 w0 hP.w0 hP.w1 hT
 have gf:=flo_btw (fun n=>rs.im n) hn.im t0 h.t0 h.t1 w0 hP.w0 hP.w1 hF
 have nn:∀α:Int,0≤dn (4*pos α*b.tl) A.wh:=fun α=>by
  have:0≤pos α:=by unfold pos;split<;>omega
  unfold dn
  exact Int.ediv_nonneg (Int.mul_nonneg (by omega) t0) (by have:=hP.w0;have:=hP.w1;omega)
 unfold turL fadL
 unfold turR turP
 simp only[hq,show∀x:Int,pt 0 x=x from fun x=>by unfold pt;rw[if_pos rfl]]
 by_cases c:b.lo=0
 ·have im0:(nsN P p).im=0:=by rw[ns_im,← h.l0,c];push_cast;grind
  have rl:=rs.real im0
  obtain⟨p1,p2⟩:=hv.parts
  cases st:stopR e A b
  ·have v0:0≤(nsN P p).re:=by
    have:0≤(nsqR e A b).a-(nsqR e A b).c:=by
     unfold stopR at st
     have:=of_decide_eq_false st
     have q:=hv.2.1
     omega
    have:=rint _ _ this
    push_cast at this p1
    grind
   have z:=zero _ _ (fun n=>(rl n).1 v0) hF
   simp only[c,and_false,and_true,if_true,if_false,Bool.false_eq_true,dz,uz]
   exact⟨gt,z,Int.le_refl 0⟩
  ·have v0:(nsN P p).re≤0:=by
    unfold stopR at st
    have st':=of_decide_eq_true st
    have:(nsqR e A b).a+(nsqR e A b).c≤0:=by
     unfold norR at hq
     obtain⟨_,q1,_⟩:=after_val hq
     rw[if_pos c]at q1
     unfold realM at q1
     split at q1
     ·rw[(quad_bad 2).2.2.2]at q1;exact absurd q1 (by decide)
     ·split at q1
      ·rw[(quad_bad 10).2.2.2]at q1;exact absurd q1 (by decide)
      ·rw[if_neg (by omega)]at q1
       split at q1
       ·assumption
       ·rw[(quad_bad 14).2.2.2]at q1;exact absurd q1 (by decide)
    have:=rint _ _ this
    push_cast at this p2
    grind
   have z:=zero _ _ (fun n=>(rl n).2 v0) hT
   simp only[c,and_false,and_true,if_true,if_false,Bool.true_eq_false,dz,uz]
   exact⟨z,gf,nn _⟩
 ·simp only[c,false_and,if_false]
  exact⟨gt,gf,nn _⟩
end Go.Proofs.YticobgianbecpaaGreatDoor
namespace Go.Proofs.YticobgianbecpaaGreatDoor
noncomputable def uN (l:Int):Nat→Cq:=Classical.choose (unit_ex l)
theorem uN_spec (l:Int):(∀n,(uN l n).nrm=1)∧Dir l (uN l)∧Dir (2*l) fun n=>uN l n*uN l n:=by
 have:=Classical.choose_spec (unit_ex l)
 exact⟨this.1,this.2.1⟩
theorem uN_zero (n:Nat):uN 0 n=Cq.one:=(Classical.choose_spec (unit_ex 0)).2.2 rfl n
open Classical in
noncomputable def phN (M:Int):Rat:=if h:0≤M then Classical.choose (fade_ex h)else 1
theorem phN_spec {M:Int} (h:0≤M):0≤phN M∧phN M≤1∧∀lo hi:Int,0≤lo→lo≤M→M≤hi →
  ((fLo hi:Rat)≤1048576*phN M∧1048576*phN M≤(fHi lo:Rat))∧((fLo (2*hi):Rat)≤1048576*(phN M*phN M)∧1048576*(phN M*phN M)≤(fHi (2*lo):Rat)):=by
 unfold phN
 rw[dif_pos h]
 exact Classical.choose_spec (fade_ex h)
noncomputable def faN (P:PA) (p:PL) (n:Nat):Cq:=(uN (turL P p) n).scale (phN (fadL P p))
theorem in_fac0 {e k:Int}{A:Ask}{b:Box}{L:Int}{z:Nat→Cq}{r:Rat} (hz:∀n,(z n).nrm=1) (hd:Dir (k*L) z) (h0:k*turR 0 e A b≤k*L) (h1:k*L≤k*turR 1 e A b)
  (hr:(fLo (k*turR 3 e A b):Rat)≤1048576*r∧1048576*r≤(fHi (k*turR 2 e A b):Rat)) (hq:(facR e A b k).q=0):In (facR e A b k) fun n=>(z n).scale r:=by
 unfold facR at hq ⊢
 obtain⟨a1,q1,eq1⟩:=after_val hq
 obtain⟨a2,q2,eq2⟩:=after_val a1
 obtain⟨a3,q3,eq3⟩:=after_val a2
 rw[eq1]
 rw[eq2,eq3]at q1 ⊢
 have hc:In (if k*turR 1 e A b-k*turR 0 e A b<1048576 then arcM (k*turR 0 e A b) (k*turR 1 e A b)else .good 0 0 1048576) z:=by
  split
  ·rename_i c
   rw[if_pos c]at q3
   exact in_arc hd h0 h1 (by omega) q3
  ·exact in_circle hz
 refine(in_ti hc (in_range (x:=fun _=>r) (Btw.of fun _=>hr) q2) q1).congr (Ev.of fun n => ?_)
 apply Cq.ext'<;>simp<;>grind
theorem fac_err {e k:Int}{A:Ask}{b:Box} (hq:(facR e A b k).q=0):(norR e A b).q=0:=by
 unfold facR at hq
 obtain⟨a1,_,_⟩:=after_val hq
 obtain⟨a2,_,_⟩:=after_val a1
 exact(after_val a2).1
theorem in_fac1 {e:Int}{A:Ask}{P:PA}{b:Box}{p:PL} (hP:P.at A) (hA:0≤A.ix) (h:p.at b) (n0:0≤p.n) (l0:0≤p.l) (t0:0≤b.tl) (w0:1≤A.wl) (hq:(facR e A b 1).q=0) :
  e=0∧In (facR e A b 1) (faN P p):=by
 have nq:=fac_err hq
 obtain⟨⟨h0,h1,_⟩,⟨f0,f1,f2⟩,g0⟩:=tur_btw hP hA h n0 l0 t0 w0 nq
 obtain⟨u1,u2,_⟩:=uN_spec (turL P p)
 have ph:=(phN_spec f2).2.2 _ _ g0 f0 f1
 refine⟨(in_nor hP hA h n0 l0 nq).1,?_⟩
 unfold faN
 exact in_fac0 (L:=turL P p) u1 (by rw[Int.one_mul];exact u2) (by omega) (by omega) (by rw[Int.one_mul,Int.one_mul];exact ph.1) hq
theorem in_fac2 {e:Int}{A:Ask}{P:PA}{b:Box}{p:PL} (hP:P.at A) (hA:0≤A.ix) (h:p.at b) (n0:0≤p.n) (l0:0≤p.l) (t0:0≤b.tl) (w0:1≤A.wl) (hq:(facR e A b 2).q=0) :
  e=0∧In (facR e A b 2) fun n=>faN P p n*faN P p n:=by
 have nq:=fac_err hq
 obtain⟨⟨h0,h1,_⟩,⟨f0,f1,f2⟩,g0⟩:=tur_btw hP hA h n0 l0 t0 w0 nq
 obtain⟨u1,_,u2⟩:=uN_spec (turL P p)
 have ph:=(phN_spec f2).2.2 _ _ g0 f0 f1
 refine⟨(in_nor hP hA h n0 l0 nq).1,(in_fac0 (L:=turL P p) (r:=phN (fadL P p)*phN (fadL P p)) (fun n=>by rw[Cq.nrm_mul,u1];grind) u2 (by omega) (by omega) ph.2 hq).congr (Ev.of fun n => ?_)⟩
 unfold faN
 apply Cq.ext'<;>simp<;>grind
structure M4 where
 m0:Cq
 m1:Cq
 m2:Cq
 m3:Cq
def hf:Cq:=⟨1/2,0⟩
def zr:Cq:=⟨0,0⟩
def matC (y g:Cq):M4:=⟨(Cq.one+g)*hf,(Cq.one-g)*hf*y.inv,(Cq.one-g)*hf*y,(Cq.one+g)*hf⟩
def mulC (p m:M4):M4:=⟨p.m0*m.m0+p.m1*m.m2,p.m0*m.m1+p.m1*m.m3,p.m2*m.m0+p.m3*m.m2,p.m2*m.m1+p.m3*m.m3⟩
structure InM (M:Mat) (z:Nat→M4):Prop where
 i0:In M.m0 fun n=>(z n).m0
 i1:In M.m1 fun n=>(z n).m1
 i2:In M.m2 fun n=>(z n).m2
 i3:In M.m3 fun n=>(z n).m3
theorem in_const {R:Res}{a b:Int}{z:Cq} (hR:R = .good a b 0) (hr:Right a b 0) (hz:z.scale 1048576=⟨a,b⟩):In R fun _=>z:=by
 subst hR
 obtain⟨e1,e2,e3,e4⟩:=quad_good a b 0
 refine⟨hr,e4,fun d hd=>Ev.of fun n => ?_⟩
 rw[e1,e2,e3,hz]
 exact(Cq.Near.rfl _).le (by push_cast;grind)
theorem in_one:In oneR fun _=>Cq.one:=in_const (a:=1048576) (b:=0) (by unfold oneR;rfl) (by unfold Right Fits;omega) (cq_eq (by decide +kernel))
theorem in_none:In noneR fun _=>zr:=in_const (a:=0) (b:=0) (by unfold noneR;rfl) (by unfold Right Fits;omega) (cq_eq (by decide +kernel))
theorem in_half:In halfR fun _=>hf:=in_const (a:=524288) (b:=0) (by unfold halfR;rfl) (by unfold Right Fits;omega) (cq_eq (by decide +kernel))
theorem in_after {e:Int}{R:Res}{z:Nat→Cq} (hq:(after e R).q=0) (h:R.q=0→In R z):In (after e R) z:=by
 obtain⟨_,q,w⟩:=after_val hq
 rw[w];exact h q
theorem in_mat {e:Int}{y g:Res}{Y G:Nat→Cq} (hy:In y Y) (hg:In g G) (hq:(matR e y g).2=0):e=0∧InM (matR e y g).1 (fun n=>matC (Y n) (G n))∧Ev fun n=>(Y n).nrm≠0:=by
 unfold matR at hq ⊢
 have b1:=(after_val hq).1
 have b2:=(after_val b1).1
 have b3:=(after_val b2).1
 have b4:=(after_val b3).1
 have b5:=(after_val b4).1
 have b6:=(after_val b5).1
 have hh:=in_after b6 fun _=>in_half
 have hp:=in_after b5 fun q=>in_pl in_one hg q
 have hu:=in_after b4 fun q=>in_ti hp hh q
 have hn:=in_after b3 fun q=>in_mi in_one hg q
 have hc:=in_after b2 fun q=>in_ti hn hh q
 have hv:=in_after b1 fun q=>(in_qt' hc hy q).1
 have hw:=in_after hq fun q=>in_ti hc hy q
 exact⟨(after_val b6).1,⟨hu,hv,hw,hu⟩,(in_qt' hc hy (after_val b1).2.1).2⟩
theorem in_dot {e:Int}{a b c d:Res}{A B C D:Nat→Cq} (ha:In a A) (hb:In b B) (hc:In c C) (hd:In d D) (hq:(dotR e a b c d).q=0):e=0∧In (dotR e a b c d) fun n=>A n*B n+C n*D n:=by
 unfold dotR at hq ⊢
 obtain⟨b1,q1,w1⟩:=after_val hq
 obtain⟨b2,q2,w2⟩:=after_val b1
 obtain⟨b3,q3,w3⟩:=after_val b2
 rw[w1]
 rw[w2,w3]at q1 ⊢
 exact⟨b3,in_pl (in_ti ha hb q3) (in_ti hc hd q2) q1⟩
theorem in_mul {e:Int}{p m:Mat}{p' m':Nat→M4} (hp:InM p p') (hm:InM m m') (hq:(mulR e p m).2=0):e=0∧InM (mulR e p m).1 fun n=>mulC (p' n) (m' n):=by
 unfold mulR at hq ⊢
 obtain⟨b1,h3⟩:=in_dot hp.i2 hm.i1 hp.i3 hm.i3 hq
 obtain⟨b2,h2⟩:=in_dot hp.i2 hm.i0 hp.i3 hm.i2 b1
 obtain⟨b3,h1⟩:=in_dot hp.i0 hm.i1 hp.i1 hm.i3 b2
 obtain⟨b4,h0⟩:=in_dot hp.i0 hm.i0 hp.i1 hm.i2 b3
 exact⟨b4,⟨h0,h1,h2,h3⟩⟩
def stepC (s:M4 × Cq) (x:Cq × Cq):M4 × Cq:=(mulC s.1 (matC x.1 (x.2*x.2)),s.2*x.2)
def runC:M4 × Cq→List (Cq × Cq)→M4 × Cq
 | s,[]=>s
 | s,x::l=>runC (stepC s x) l
noncomputable def layC (P:PA) (n:Nat) (p:PL):Cq × Cq:=(adN P p n,faN P p n)
structure InT (fs:Bool) (s:Thr) (z:Nat→M4 × Cq):Prop where
 q:s.q=0
 p:InM s.p fun n=>(z n).1
 f:fs=true→In s.f fun n=>(z n).2
theorem in_step {A:Ask}{P:PA}{fs:Bool}{s:Thr}{b:Box}{p:PL}{z:Nat→M4 × Cq} (hP:P.at A) (hA:0≤A.ix) (w0:1≤A.wl) (h:p.at b) (n0:0≤p.n) (l0:0≤p.l) (t0:0≤b.tl)
  (hs:InT fs s z) (hq:(stepR A fs s b).q=0):InT fs (stepR A fs s b) (fun n=>stepC (z n) (layC P n p))∧Ev fun n=>(adN P p n).nrm≠0:=by
 unfold stepR at hq ⊢
 cases fs
 ·simp only[Bool.false_eq_true,if_false]at hq ⊢
  have mq:(matR (facR (admR s.q A b).q A b 2).q (admR s.q A b) (facR (admR s.q A b).q A b 2)).2=0:=by
   unfold mulR at hq
   have a:=hq
   unfold dotR at a
   exact(after_val (after_val (after_val (after_val (after_val (after_val (after_val (after_val (after_val (after_val (after_val (after_val a).1).1).1).1).1).1).1).1).1).1).1).1
  have gq:(facR (admR s.q A b).q A b 2).q=0:=by
   have a:=mq
   unfold matR at a
   exact(after_val (after_val (after_val (after_val (after_val (after_val (after_val a).1).1).1).1).1).1).1
  obtain⟨yq,hg⟩:=in_fac2 hP hA h n0 l0 t0 w0 gq
  obtain⟨_,hy,_⟩:=in_adm hP hA h n0 l0 yq
  obtain⟨_,hm,nz⟩:=in_mat hy hg mq
  obtain⟨_,hp⟩:=in_mul hs.p hm hq
  exact⟨⟨hq,hp,fun k=>by cases k⟩,nz⟩
 ·simp only[if_true]at hq ⊢
  have mq:(matR (after (facR (facR (admR s.q A b).q A b 2).q A b 1).q (ti s.f (facR (facR (admR s.q A b).q A b 2).q A b 1))).q (admR s.q A b) (facR (admR s.q A b).q A b 2)).2=0:=by
   unfold mulR at hq
   have a:=hq
   unfold dotR at a
   exact(after_val (after_val (after_val (after_val (after_val (after_val (after_val (after_val (after_val (after_val (after_val (after_val a).1).1).1).1).1).1).1).1).1).1).1).1
  have fq:(after (facR (facR (admR s.q A b).q A b 2).q A b 1).q (ti s.f (facR (facR (admR s.q A b).q A b 2).q A b 1))).q=0:=by
   have a:=mq
   unfold matR at a
   exact(after_val (after_val (after_val (after_val (after_val (after_val (after_val a).1).1).1).1).1).1).1
  obtain⟨xq,tq,wq⟩:=after_val fq
  obtain⟨gq,hx⟩:=in_fac1 hP hA h n0 l0 t0 w0 xq
  obtain⟨yq,hg⟩:=in_fac2 hP hA h n0 l0 t0 w0 gq
  obtain⟨_,hy,_⟩:=in_adm hP hA h n0 l0 yq
  obtain⟨_,hm,nz⟩:=in_mat hy hg mq
  obtain⟨_,hp⟩:=in_mul hs.p hm hq
  exact⟨⟨hq,hp,fun _=>by rw[wq];exact in_ti (hs.f rfl) hx tq⟩,nz⟩
structure PL.ok (p:PL) (b:Box):Prop where
 i:p.at b
 n:0≤p.n
 l:0≤p.l
 t:0≤b.tl
inductive Lays:List PL→List Box→Prop
 | nil:Lays [] []
 | cons {p b ps bs} (h:PL.ok p b) (t:Lays ps bs):Lays (p::ps) (b::bs)
theorem in_run {A:Ask}{P:PA}{fs:Bool} (hP:P.at A) (hA:0≤A.ix) (w0:1≤A.wl){ps:List PL}{bs:List Box} (h:Lays ps bs):∀ {s:Thr}{z:Nat→M4 × Cq},(s.q=0→InT fs s z)→(runR A fs s bs).q=0 →
  InT fs (runR A fs s bs) (fun n=>runC (z n) (ps.map (layC P n)))∧∀p∈ps,Ev fun n=>(adN P p n).nrm≠0:=by
 induction h with
 | nil=>intro s z hs hq;unfold runR at hq ⊢;exact⟨hs hq,fun p hp=>by cases hp⟩
 | @cons p b ps bs h t ih =>
  intro s z hs hq
  unfold runR at hq ⊢
  by_cases c:s.q=0
  ·rw[if_pos c]at hq ⊢
   have fin:(stepR A fs s b).q=0:=by
    rcases Classical.em ((stepR A fs s b).q=0)with k|k
    ·exact k
    ·cases bs with
     | nil=>unfold runR at hq;exact absurd hq k
     | cons b' bs=>unfold runR at hq;rw[if_neg k]at hq;exact absurd hq k
   obtain⟨st,nz⟩:=in_step hP hA w0 h.i h.n h.l h.t (hs c) fin
   obtain⟨r1,r2⟩:=ih (fun _=>st) hq
   refine⟨r1,fun q hq => ?_⟩
   rcases List.mem_cons.1 hq with rfl|hq
   ·exact nz
   ·exact r2 q hq
  ·rw[if_neg c]at hq;exact absurd hq c
def ampC (fs:Bool) (y l:Cq) (t:M4 × Cq):Cq :=
 let b:=t.1.m0+t.1.m1*l
 let c:=t.1.m2+t.1.m3*l
 if fs=true then(y+y)*t.2*(y*b+c).inv else(y*b-c)*(y*b+c).inv
def frontP (P:PA):PL:=⟨P.ix,0,0⟩
def backP (P:PA):PL:=⟨P.oi,0,P.ol⟩
noncomputable def thrN (P:PA) (n:Nat):M4 × Cq:=runC (⟨Cq.one,zr,zr,Cq.one⟩,Cq.one) (P.ls.map (layC P n))
noncomputable def ampN (P:PA) (fs:Bool) (n:Nat):Cq:=ampC fs (adN P (frontP P) n) (adN P (backP P) n) (thrN P n)
structure PA.ok (P:PA) (A:Ask):Prop where
 i:P.at A
 ls:Lays P.ls A.ls
 ix:0≤A.ix
 w:1≤A.wl
 oi:0≤A.oi
 ol:0≤A.ol
theorem tmed_front (A:Ask):A.med 0=⟨A.ix,A.ix,0,0,0⟩:=by unfold Ask.med;rfl
theorem tmed_back (A:Ask):A.med (A.ls.length+1)=⟨A.oi,A.oi,0,0,A.ol⟩:=by
 unfold Ask.med
 rw[if_neg (by omega)]
 simp
theorem in_front {A:Ask}{P:PA}{e:Int} (h:P.ok A) (hq:(admR e A (A.med 0)).q=0):e=0∧In (admR e A (A.med 0)) (adN P (frontP P)):=by
 rw[tmed_front]at hq ⊢
 have:=in_adm (p:=frontP P) h.i h.ix ⟨by have:=h.i.ix;unfold frontP;dsimp only;omega,by have:=h.i.ix;unfold frontP;dsimp only;omega,Int.le_refl _,Int.le_refl _,rfl⟩ (by have:=h.i.ix;have:=h.ix;unfold frontP;dsimp only;omega) (Int.le_refl _) hq
 exact⟨this.1,this.2.1⟩
theorem in_back {A:Ask}{P:PA}{e:Int} (h:P.ok A) (hq:(admR e A (A.med (A.ls.length+1))).q=0):e=0∧In (admR e A (A.med (A.ls.length+1))) (adN P (backP P)):=by
 rw[tmed_back]at hq ⊢
 have:=in_adm (p:=backP P) h.i h.ix ⟨by have:=h.i.oi;unfold backP;dsimp only;omega,by have:=h.i.oi;unfold backP;dsimp only;omega,Int.le_refl _,Int.le_refl _,h.i.ol⟩ (by have:=h.i.oi;have:=h.oi;unfold backP;dsimp only;omega) (by have:=h.i.ol;have:=h.ol;unfold backP;dsimp only;omega) hq
 exact⟨this.1,this.2.1⟩
theorem in_amp {A:Ask}{P:PA}{fs:Bool} (h:P.ok A) (hq:(ampR A fs).q=0) :
  In (ampR A fs) (ampN P fs)∧(∀p∈P.ls,Ev fun n=>(adN P p n).nrm≠0)∧Ev fun n=>(adN P (frontP P) n*((thrN P n).1.m0+(thrN P n).1.m1*adN P (backP P) n)+((thrN P n).1.m2+(thrN P n).1.m3*adN P (backP P) n)).nrm≠0:=by
 unfold ampR at hq ⊢
 cases fs
 ·simp only[Bool.false_eq_true,if_false]at hq ⊢
  have b1:=(after_val hq).1
  have b2:=(after_val b1).1
  have b3:=(after_val b2).1
  have b4:=(after_val b3).1
  have b5:=(after_val b4).1
  have b6:=(after_val b5).1
  have b7:=(after_val b6).1
  have b8:=(after_val b7).1
  obtain⟨b9,hl⟩:=in_back h b8
  have tq:=b9
  unfold thrR at tq
  obtain⟨ht,nz⟩:=in_run h.i h.ix h.w h.ls (fs:=false) (z:=fun _=>(⟨Cq.one,zr,zr,Cq.one⟩,Cq.one)) (fun q=>⟨q,⟨in_one,in_none,in_none,in_one⟩,fun _=>in_one⟩) tq
  have fq:(admR 0 A (A.med 0)).q=0:=by
   have k:=tq
   cases hl:A.ls with
   | nil=>rw[hl]at k;unfold runR at k;exact k
   | cons b bs =>
    rw[hl]at k
    unfold runR at k
    rcases Classical.em ((admR 0 A (A.med 0)).q=0)with c|c
    ·exact c
    ·rw[if_neg c]at k;exact absurd k c
  obtain⟨_,hf⟩:=in_front h fq
  have e:runR A false ⟨⟨oneR,noneR,noneR,oneR⟩,oneR,(admR 0 A (A.med 0)).q⟩ A.ls=thrR (admR 0 A (A.med 0)).q A false:=by unfold thrR;rfl
  rw[e]at ht
  have hb1:=in_after b7 fun q=>in_ti ht.p.i1 hl q
  have hb:=in_after b6 fun q=>in_pl ht.p.i0 hb1 q
  have hc1:=in_after b5 fun q=>in_ti ht.p.i3 hl q
  have hc:=in_after b4 fun q=>in_pl ht.p.i2 hc1 q
  have ha:=in_after b3 fun q=>in_ti hf hb q
  have hd:=in_after b2 fun q=>in_pl ha hc q
  have hx:=in_after b1 fun q=>in_mi ha hc q
  have hz:=in_qt' hx hd (after_val hq).2.1
  exact⟨in_after hq fun _=>hz.1,nz,hz.2⟩
 ·simp only[if_true]at hq ⊢
  have b1:=(after_val hq).1
  have c1:=(after_val b1).1
  have b2:=(after_val c1).1
  have b3:=(after_val b2).1
  have b4:=(after_val b3).1
  have b5:=(after_val b4).1
  have b6:=(after_val b5).1
  have b7:=(after_val b6).1
  have b8:=(after_val b7).1
  obtain⟨b9,hl⟩:=in_back h b8
  have tq:=b9
  unfold thrR at tq
  obtain⟨ht,nz⟩:=in_run h.i h.ix h.w h.ls (fs:=true) (z:=fun _=>(⟨Cq.one,zr,zr,Cq.one⟩,Cq.one)) (fun q=>⟨q,⟨in_one,in_none,in_none,in_one⟩,fun _=>in_one⟩) tq
  have fq:(admR 0 A (A.med 0)).q=0:=by
   have k:=tq
   cases hl:A.ls with
   | nil=>rw[hl]at k;unfold runR at k;exact k
   | cons b bs =>
    rw[hl]at k
    unfold runR at k
    rcases Classical.em ((admR 0 A (A.med 0)).q=0)with c|c
    ·exact c
    ·rw[if_neg c]at k;exact absurd k c
  obtain⟨_,hf⟩:=in_front h fq
  have e:runR A true ⟨⟨oneR,noneR,noneR,oneR⟩,oneR,(admR 0 A (A.med 0)).q⟩ A.ls=thrR (admR 0 A (A.med 0)).q A true:=by unfold thrR;rfl
  rw[e]at ht
  have hb1:=in_after b7 fun q=>in_ti ht.p.i1 hl q
  have hb:=in_after b6 fun q=>in_pl ht.p.i0 hb1 q
  have hc1:=in_after b5 fun q=>in_ti ht.p.i3 hl q
  have hc:=in_after b4 fun q=>in_pl ht.p.i2 hc1 q
  have ha:=in_after b3 fun q=>in_ti hf hb q
  have hd:=in_after b2 fun q=>in_pl ha hc q
  have hy:=in_after c1 fun q=>in_pl hf hf q
  have hx:=in_after b1 fun q=>in_ti hy (ht.f rfl) q
  have hz:=in_qt' hx hd (after_val hq).2.1
  exact⟨in_after hq fun _=>hz.1,nz,hz.2⟩
end Go.Proofs.YticobgianbecpaaGreatDoor
