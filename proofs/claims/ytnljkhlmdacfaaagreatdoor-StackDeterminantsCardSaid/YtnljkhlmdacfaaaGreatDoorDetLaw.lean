/- A layer's factor, squared, meets its double factor; so does the determinant of its matrix. No program in sight. -/
import Derived.Test.YtnljkhlmdacfaaaGreatDoorKBack
import Derived.Test.YtnljkhlmdacfaaaGreatDoorKTop
import Derived.Test.YtnljkhlmdacfaaaGreatDoorTogLaw
namespace Go.Proofs.YtnljkhlmdacfaaaGreatDoor
def Sz (m x:Int):Prop := -m≤x∧x≤m
theorem Sz.mul {m k x y:Int} (hx:Sz m x) (hy:Sz k y) (_h0:0≤m) (_h1:0≤k):Sz (m*k) (x*y):=by
 have a:=Int.mul_nonneg (show 0≤m-x by have:=hx.2;omega) (show 0≤k-y by have:=hy.2;omega)
 have b:=Int.mul_nonneg (show 0≤m+x by have:=hx.1;omega) (show 0≤k+y by have:=hy.1;omega)
 have c:=Int.mul_nonneg (show 0≤m-x by have:=hx.2;omega) (show 0≤k+y by have:=hy.1;omega)
 have d:=Int.mul_nonneg (show 0≤m+x by have:=hx.1;omega) (show 0≤k-y by have:=hy.2;omega)
 constructor<;>grind
theorem sq_nn (x:Int):0≤x*x:=by
 rcases Int.le_total 0 x with h|h
 ·exact Int.mul_nonneg h h
 ·exact Int.mul_nonneg_of_nonpos_of_nonpos h h
theorem sq_sum {m x y:Int} (hx:Sz m x) (hy:Sz m y) (h0:0≤m):0≤x*x+y*y∧x*x+y*y≤m*m+m*m:=by
 have a:=(hx.mul hx h0 h0).2
 have b:=(hy.mul hy h0 h0).2
 have c:0≤x*x:=sq_nn x
 have d:0≤y*y:=sq_nn y
 omega
theorem rtu_top {n b:Int} (h0:0≤n) (h1:n<4611686018427387904) (hb:0≤b) (h:n≤b*b):0≤rtu n∧rtu n≤b+1:=by
 have a:=rt_le h0 h1 hb h
 have b:=rtu_bounds (n:=n)
 have c:=rt_nonneg n
 omega
theorem ti_size {R S:Res}{m k r s u v M K:Int} (hR:Fine R) (hS:Fine S) (_q1:R.q=0) (_q2:S.q=0) (a1:Sz m R.a) (a2:Sz m R.b) (a3:R.c≤r) (b1:Sz k S.a) (b2:Sz k S.b) (b3:S.c≤s)
  (m0:0≤m) (k0:0≤k) (r0:0≤r) (_s0:0≤s) (u0:0≤u) (v0:0≤v) (hu:m*m+m*m≤u*u) (hv:k*k+k*k≤v*v) (hu1:m*m+m*m<4611686018427387904) (hv1:k*k+k*k<4611686018427387904)
  (hM:m*k+m*k≤M*1048576) (hM1:M≤67108863) (hK:(u+1)*s+(v+1)*r+r*s≤K*1048576) (hK1:K≤67108863) :
  (ti R S).q=0∧Sz (M+1) (ti R S).a∧Sz (M+1) (ti R S).b∧(ti R S).c≤K+1:=by
 have rR:=hR.right
 have rS:=hS.right
 have p1:=a1.mul b1 m0 k0
 have p2:=a2.mul b2 m0 k0
 have p3:=a1.mul b2 m0 k0
 have p4:=a2.mul b1 m0 k0
 have x1:=sq_sum a1 a2 m0
 have x2:=sq_sum b1 b2 k0
 have t1:=rtu_top x1.1 (by omega) u0 (Int.le_trans x1.2 hu)
 have t2:=rtu_top x2.1 (by omega) v0 (Int.le_trans x2.2 hv)
 have c1:=rR.2.1
 have c2:=rS.2.1
 have y1:rtu (R.a*R.a+R.b*R.b)*S.c≤(u+1)*s:=Int.mul_le_mul t1.2 b3 c2 (by omega)
 have y2:rtu (S.a*S.a+S.b*S.b)*R.c≤(v+1)*r:=Int.mul_le_mul t2.2 a3 c1 (by omega)
 have y3:R.c*S.c≤r*s:=Int.mul_le_mul a3 b3 c2 r0
 have z1:0≤rtu (R.a*R.a+R.b*R.b)*S.c:=Int.mul_nonneg t1.1 c2
 have z2:0≤rtu (S.a*S.a+S.b*S.b)*R.c:=Int.mul_nonneg t2.1 c1
 have z3:0≤R.c*S.c:=Int.mul_nonneg c1 c2
 have e:ti R S=fin (rnd (R.a*S.a-R.b*S.b)) (rnd (R.a*S.b+R.b*S.a)) (timesR R.a R.b R.c S.a S.b S.c) 0:=by
  unfold ti timesM
  exact two_val rR rS _
 have hb:=b1_bd (inx (R.a*S.a-R.b*S.b)||inx (R.a*S.b+R.b*S.a))
 have f1:Sz (M+1) (rnd (R.a*S.a-R.b*S.b)):=by
  have:=p1.1;have:=p1.2;have:=p2.1;have:=p2.2
  generalize R.a*S.a=A at *
  generalize R.b*S.b=B at *
  generalize m*k=C at *
  unfold rnd Sz
  omega
 have f2:Sz (M+1) (rnd (R.a*S.b+R.b*S.a)):=by
  have:=p3.1;have:=p3.2;have:=p4.1;have:=p4.2
  generalize R.a*S.b=A at *
  generalize R.b*S.a=B at *
  generalize m*k=C at *
  unfold rnd Sz
  omega
 have f3:0≤timesR R.a R.b R.c S.a S.b S.c∧timesR R.a R.b R.c S.a S.b S.c≤K+1:=by
  unfold timesR
  generalize Go.Proofs.YtnljkhlmdacfaaaGreatDoor.b1 (inx (R.a*S.a-R.b*S.b)||inx (R.a*S.b+R.b*S.a))=w at *
  generalize rtu (R.a*R.a+R.b*R.b)*S.c=A at *
  generalize rtu (S.a*S.a+S.b*S.b)*R.c=B at *
  generalize R.c*S.c=C at *
  omega
 have rt:Right (rnd (R.a*S.a-R.b*S.b)) (rnd (R.a*S.b+R.b*S.a)) (timesR R.a R.b R.c S.a S.b S.c):=by
  unfold Right Fits
  have:=f1.1;have:=f1.2;have:=f2.1;have:=f2.2
  omega
 rw[e]
 unfold fin
 rw[if_neg (by simp),if_pos rt]
 obtain⟨g1,g2,g3,g4⟩:=quad_good (rnd (R.a*S.a-R.b*S.b)) (rnd (R.a*S.b+R.b*S.a)) (timesR R.a R.b R.c S.a S.b S.c)
 rw[g1,g2,g3,g4]
 exact⟨rfl,f1,f2,f3.2⟩
theorem arc_size {lo hi:Int} (h:hi-lo<1048576) (hq:(arcM lo hi).q=0):Sz 1048576 (arcM lo hi).a∧Sz 1048576 (arcM lo hi).b∧(arcM lo hi).c≤823884:=by
 unfold arcM at hq ⊢
 split at hq
 ·rename_i c1
  rw[if_pos c1]
  split at hq
  ·rename_i c2
   rw[if_pos c2]
   unfold arM at hq ⊢
   obtain⟨e1,e2,e3,_⟩:=fin_val hq
   rw[e1,e2,e3]
   have b:=ct_sm ((lo+hi)/2)
   refine⟨⟨b.1,b.2.1⟩,⟨b.2.2.1,b.2.2.2⟩,?_⟩
   unfold arR
   split<;>omega
  ·rw[(quad_bad _).2.2.2]at hq;exact absurd hq (by decide)
 ·rw[(quad_bad _).2.2.2]at hq;exact absurd hq (by decide)
theorem real_size {lo hi:Int} (h0:0≤lo) (h1:hi≤1048576) (hq:(ofRangeM lo hi).q=0):Sz 1048576 (ofRangeM lo hi).a∧Sz 1048576 (ofRangeM lo hi).b∧(ofRangeM lo hi).c≤524288:=by
 obtain⟨e,h2,_⟩:=range_val hq
 rw[e]
 obtain⟨g1,g2,g3,_⟩:=quad_good ((lo+hi)/2) 0 (hi-(lo+hi)/2)
 rw[g1,g2,g3]
 unfold Sz
 omega
theorem fac_size {e k:Int}{A:Ask}{b:Box} (p0:0≤k*turR 3 e A b) (p1:0≤k*turR 2 e A b) (hq:(facR e A b k).q=0):(ti (facR e A b k) (facR e A b k)).q=0:=by
 have hf:=fine_fac e A b k
 suffices h:Sz 2097153 (facR e A b k).a∧Sz 2097153 (facR e A b k).b∧(facR e A b k).c≤4194304 from
  (ti_size (m:=2097153) (k:=2097153) (r:=4194304) (s:=4194304) (u:=2965823) (v:=2965823) (M:=8388617) (K:=40503900) hf hf hq hq h.1 h.2.1 h.2.2 h.1 h.2.1 h.2.2 (by decide) (by decide) (by decide) (by decide) (by decide) (by decide) (by decide) (by decide) (by decide) (by decide) (by decide) (by decide) (by decide) (by decide)).1
 unfold facR at hq ⊢
 obtain⟨a1,q1,eq1⟩:=after_val hq
 obtain⟨a2,q2,eq2⟩:=after_val a1
 obtain⟨a3,q3,eq3⟩:=after_val a2
 rw[eq1]
 rw[eq2,eq3]at q1 ⊢
 have hr:=real_size (tog_ends p0).1 (tog_ends p1).2.2 q2
 have hc:∀R:Res,R=(if k*turR 1 e A b-k*turR 0 e A b<1048576 then arcM (k*turR 0 e A b) (k*turR 1 e A b)else .good 0 0 1048576)→Fine R∧Sz 1048576 R.a∧Sz 1048576 R.b∧R.c≤1048576:=by
  intro R hR
  split at hR
  ·rename_i c
   rw[if_pos c]at q3
   subst hR
   have:=arc_size c q3
   exact⟨fine_arc _ _,this.1,this.2.1,Int.le_trans this.2.2 (by decide)⟩
  ·subst hR
   obtain⟨g1,g2,g3,_⟩:=quad_good 0 0 1048576
   rw[g1,g2,g3]
   exact⟨by unfold Fine Right Fits;dsimp only;omega,by unfold Sz;omega,by unfold Sz;omega,by omega⟩
 obtain⟨f1,s1,s2,s3⟩:=hc _ rfl
 have s4:=ti_size (m:=1048576) (k:=1048576) (r:=1048576) (s:=524288) (u:=1482911) (v:=1482911) (M:=2097152) (K:=2748700) f1 (fine_range _ _) q3 q2 s1 s2 s3 hr.1 hr.2.1 hr.2.2 (by decide) (by decide) (by decide) (by decide) (by decide) (by decide) (by decide) (by decide) (by decide) (by decide) (by decide) (by decide) (by decide) (by decide)
 exact⟨s4.2.1,s4.2.2.1,Int.le_trans s4.2.2.2 (by decide)⟩
theorem turP_le01 (e:Int) (A:Ask) (b:Box):turP 0 e A b≤turP 1 e A b:=by
 obtain⟨_,r0,_⟩:=(fine_nor e A b).right
 unfold turP pt
 simp only
 split
 ·exact Int.le_refl _
 ·split
  ·omega
  ·exact Int.le_refl _
theorem fac_order {e:Int}{A:Ask}{b:Box}{n:Int} (hA:AskOk A) (hb:BoxOk b) (hn:n=1∨n=2):n*turR 0 e A b≤n*turR 1 e A b:=by
 obtain⟨t0,t1,t2,t3,w0,w1,w2,w3,_⟩:=hA.tur hb
 have hw:=hA.w1
 have ht:=hb.t1
 have le:dn (4*pos (turP 0 e A b)*b.tl) A.wh≤up (4*pos (turP 1 e A b)*b.th) A.wl:=by
  refine dn_up ?_ (by omega) hw (mul4_bd (turP_bd 0 e A b) t0 t1).1
  have p0:=(pos_bd (turP 1 e A b) (turP_bd 1 e A b)).1
  have p1:=pos_mono (turP_le01 e A b)
  exact Int.mul_le_mul (by omega) ht t0 (by omega)
 unfold turR
 simp only
 rcases hn with rfl|rfl<;>omega
theorem arc_fits {lo hi:Int} (a0:0≤lo) (a1:lo≤hi) (a2:hi≤1099511627776) (h:hi-lo<1048576):(arcM lo hi).q=0:=by
 have b:=ct_sm ((lo+hi)/2)
 have r:0≤arR lo hi∧arR lo hi≤823884:=by unfold arR;split<;>omega
 unfold arcM
 rw[if_pos (by unfold InParts;omega),if_pos a1]
 unfold arM fin
 rw[if_neg (by simp),if_pos (by unfold Right Fits;omega)]
 exact(quad_good _ _ _).2.2.2
theorem real_fits {lo hi:Int} (h0:0≤lo) (h1:lo≤hi) (h2:hi≤1048576):(ofRangeM lo hi).q=0:=by
 unfold ofRangeM
 rw[if_neg (by omega),if_neg (by omega)]
 exact(quad_good _ _ _).2.2.2
theorem fade_order {p z:Int} (p0:0≤p) (h:p≤z):fLo z≤fHi p:=by
 by_cases c:p≤16777216
 ·exact tog_less p0 h c
 ·rw[fLo_out (by omega)]
  exact(tog_ends p0).2.1
theorem fac_q {A:Ask}{b:Box}{n:Int} (hA:AskOk A) (hb:BoxOk b) (hn:n=1∨n=2) (h:(norR 0 A b).q=0):(facR 0 A b n).q=0:=by
 have o:=fac_order (e:=0) hA hb hn
 obtain⟨a0,a1,b0,b1,c0,c1,d1⟩:=fac_pre (e:=0) hA hb hn
 have hc:∀R:Res,R=(if n*turR 1 0 A b-n*turR 0 0 A b<1048576 then arcM (n*turR 0 0 A b) (n*turR 1 0 A b)else .good 0 0 1048576)→Fine R∧R.q=0∧Sz 1048576 R.a∧Sz 1048576 R.b∧R.c≤1048576:=by
  intro R hR
  split at hR
  ·rename_i c
   subst hR
   have q:=arc_fits a0 o b1 c
   have:=arc_size c q
   exact⟨fine_arc _ _,q,this.1,this.2.1,Int.le_trans this.2.2 (by decide)⟩
  ·subst hR
   obtain⟨g1,g2,g3,g4⟩:=quad_good 0 0 1048576
   rw[g1,g2,g3,g4]
   exact⟨by unfold Fine Right Fits;dsimp only;omega,rfl,by unfold Sz;omega,by unfold Sz;omega,by omega⟩
 obtain⟨f1,qc,s1,s2,s3⟩:=hc _ rfl
 have qr:=real_fits (tog_ends (p:=n*turR 3 0 A b) (by omega)).1 (fade_order c0 c1) (tog_ends c0).2.2
 have hr:=real_size (tog_ends (p:=n*turR 3 0 A b) (by omega)).1 (tog_ends c0).2.2 qr
 have s4:=ti_size (m:=1048576) (k:=1048576) (r:=1048576) (s:=524288) (u:=1482911) (v:=1482911) (M:=2097152) (K:=2748700) f1 (fine_range _ _) qc qr s1 s2 s3 hr.1 hr.2.1 hr.2.2 (by decide) (by decide) (by decide) (by decide) (by decide) (by decide) (by decide) (by decide) (by decide) (by decide) (by decide) (by decide) (by decide) (by decide)
 unfold facR
 dsimp only
 rw[h,after_zero,qc,after_zero,qr,after_zero]
 exact s4.1
theorem det_true {y g:Cq} (h:y.nrm≠0):(matC y g).m0*(matC y g).m3-(matC y g).m1*(matC y g).m2=g:=by
 have k:=Cq.inv_mul h
 have e:(matC y g).m1*(matC y g).m2=((Cq.one-g)*hf*((Cq.one-g)*hf))*(y.inv*y):=by
  show(Cq.one-g)*hf*y.inv*((Cq.one-g)*hf*y)=_
  generalize y.inv=z
  generalize (Cq.one-g)*hf=c
  apply Cq.ext'<;>simp<;>grind
 rw[e,k]
 show(Cq.one+g)*hf*((Cq.one+g)*hf)-_=g
 unfold hf Cq.one
 apply Cq.ext'<;>simp<;>grind
theorem det_close {A:Ask} (a:AskOk A){b:Box} (hb:BoxOk b) (q1:(facR 0 A b 1).q=0) (q2:(facR 0 A b 2).q=0) (qf:(ti (facR 0 A b 1) (facR 0 A b 1)).q=0) :
  Close (ti (facR 0 A b 1) (facR 0 A b 1)) (facR 0 A b 2) ∧
  ((matR 0 (admR 0 A b) (facR 0 A b 2)).2=0→(admR 0 A b).q=0 →
   (ti (matR 0 (admR 0 A b) (facR 0 A b 2)).1.m0 (matR 0 (admR 0 A b) (facR 0 A b 2)).1.m3).q=0→(ti (matR 0 (admR 0 A b) (facR 0 A b 2)).1.m1 (matR 0 (admR 0 A b) (facR 0 A b 2)).1.m2).q=0 →
   (mi (ti (matR 0 (admR 0 A b) (facR 0 A b 2)).1.m0 (matR 0 (admR 0 A b) (facR 0 A b 2)).1.m3) (ti (matR 0 (admR 0 A b) (facR 0 A b 2)).1.m1 (matR 0 (admR 0 A b) (facR 0 A b 2)).1.m2)).q=0 →
   Close (mi (ti (matR 0 (admR 0 A b) (facR 0 A b 2)).1.m0 (matR 0 (admR 0 A b) (facR 0 A b 2)).1.m3) (ti (matR 0 (admR 0 A b) (facR 0 A b 2)).1.m1 (matR 0 (admR 0 A b) (facR 0 A b 2)).1.m2)) (facR 0 A b 2)):=by
 obtain⟨ps,hp⟩:=lays_ex a.ls
 have P:=ptA_ok a hp
 obtain⟨h0,h1,_,_,h4,h5,h6,_⟩:=hb
 have hat:(⟨b.il,b.tl,b.lo⟩:PL).at b:=⟨Int.le_refl _,by omega,Int.le_refl _,by omega,rfl⟩
 have n0:(0:Int)≤b.il:=by omega
 have l0:(0:Int)≤b.lo:=by omega
 have i1:=(in_fac1 P.i P.ix hat n0 l0 (by omega) P.w q1).2
 have i2:=(in_fac2 P.i P.ix hat n0 l0 (by omega) P.w q2).2
 refine⟨(in_ti i1 i1 qf).meet i2,fun m0 y0 v1 v2 v3 => ?_⟩
 have i3:=(in_adm P.i P.ix hat n0 l0 y0).2.1
 obtain⟨_,im,nz⟩:=in_mat i3 i2 m0
 have j:=in_mi (in_ti im.i0 im.i3 v1) (in_ti im.i1 im.i2 v2) v3
 exact(j.congr (nz.mono fun n h=>det_true h)).meet i2
end Go.Proofs.YtnljkhlmdacfaaaGreatDoor
