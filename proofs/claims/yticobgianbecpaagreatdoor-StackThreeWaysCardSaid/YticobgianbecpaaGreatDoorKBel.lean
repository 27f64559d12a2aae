/- Joined: BelowTrue BelowLaw PathTrue. -/
import Derived.Test.YticobgianbecpaaGreatDoorKBack
namespace Go.Proofs.YticobgianbecpaaGreatDoor
theorem cq_cancel {a b x:Cq} (hx:x.nrm≠0) (h:a*x=b*x):a=b:=by
 have k:=Cq.inv_mul hx
 have:a*x*x.inv=b*x*x.inv:=by rw[h]
 rw[Cq.mul_assoc,Cq.mul_assoc,Cq.mul_comm x,k,Cq.mul_one,Cq.mul_one]at this
 exact this
theorem inv_back {b:Cq} (hb:b.nrm≠0) (a:Cq):a*b.inv*b=a:=by rw[Cq.mul_assoc,Cq.inv_mul hb,Cq.mul_one]
theorem quo_eq {a b c d:Cq} (hb:b.nrm≠0) (hd:d.nrm≠0) (h:a*d=c*b):a*b.inv=c*d.inv:=by
 refine cq_cancel hb (cq_cancel hd ?_)
 rw[inv_back hb]
 have:c*d.inv*b*d=c*d.inv*d*b:=by rw[Cq.mul_assoc,Cq.mul_comm b,← Cq.mul_assoc]
 rw[this,inv_back hd,h]
theorem nz_mul {a b:Cq} (ha:a.nrm≠0) (hb:b.nrm≠0):(a*b).nrm≠0:=by
 rw[Cq.nrm_mul]
 intro h
 rcases Rat.mul_eq_zero.1 h with h|h
 ·exact ha h
 ·exact hb h
theorem nz_left {a b:Cq} (h:(a*b).nrm≠0):a.nrm≠0:=by
 intro k
 apply h
 rw[Cq.nrm_mul,k,Rat.zero_mul]
theorem nz_right {a b:Cq} (h:(a*b).nrm≠0):b.nrm≠0:=by
 intro k
 apply h
 rw[Cq.nrm_mul,k,Rat.mul_zero]
theorem swapA (a b y:Cq):a*b*y=a*(y*b):=by rw[Cq.mul_assoc,Cq.mul_comm b]
theorem swapB (a b y:Cq):a*b*y=y*a*b:=by rw[Cq.mul_comm _ y,Cq.mul_assoc]
def stC (a b:Cq):Cq:=(a-b)*(a+b).inv
def belC (s:Cq × Cq) (y0 y1 f:Cq):Cq × Cq :=
 let n:=stC y0 y1
 let z:=s.1*(f*f)
 let E:=Cq.one+n*z
 ((n+z)*E.inv,(Cq.one+n)*(f*s.2)*E.inv)
structure Und (y l:Cq) (M:M4) (F:Cq) (s:Cq × Cq):Prop where
 nz:(y*(M.m0+M.m1*l)+(M.m2+M.m3*l)).nrm≠0
 r:s.1=(y*(M.m0+M.m1*l)-(M.m2+M.m3*l))*(y*(M.m0+M.m1*l)+(M.m2+M.m3*l)).inv
 t:s.2=(y+y)*F*(y*(M.m0+M.m1*l)+(M.m2+M.m3*l)).inv
theorem Und.base {y l:Cq} (h:(y+l).nrm≠0):Und y l oneM Cq.one (stC y l,Cq.one+stC y l):=by
 have e1:y*(Cq.one+zr*l)+(zr+Cq.one*l)=y+l:=by unfold zr;apply Cq.ext'<;>simp<;>grind
 have e2:y*(Cq.one+zr*l)-(zr+Cq.one*l)=y-l:=by unfold zr;apply Cq.ext'<;>simp<;>grind
 refine⟨?_,?_,?_⟩
 ·show(y*(Cq.one+zr*l)+(zr+Cq.one*l)).nrm≠0
  rw[e1];exact h
 ·show stC y l=(y*(Cq.one+zr*l)-(zr+Cq.one*l))*(y*(Cq.one+zr*l)+(zr+Cq.one*l)).inv
  rw[e1,e2];rfl
 ·show Cq.one+stC y l=(y+y)*Cq.one*(y*(Cq.one+zr*l)+(zr+Cq.one*l)).inv
  rw[e1,Cq.mul_one]
  refine cq_cancel h ?_
  rw[inv_back h,cq_right,Cq.one_mul]
  unfold stC
  rw[inv_back h]
  apply Cq.ext'<;>simp<;>grind
theorem half_sum {y b c S r:Cq} (h1:y*b+c=S) (h2:y*b-c=r*S):y*b=hf*(S+r*S)∧c=hf*(S-r*S):=by
 rw[← h2,← h1]
 unfold hf
 constructor<;>(apply Cq.ext'<;>simp<;>grind)
theorem half_sum2 {y0 y1 P n:Cq} (h1:y0+y1=P) (h2:y0-y1=n*P):y0=hf*(P+n*P)∧y1=hf*(P-n*P):=by
 rw[← h2,← h1]
 unfold hf
 constructor<;>(apply Cq.ext'<;>simp<;>grind)
theorem poly1 (P n S r g:Cq) :
  hf*(P+n*P)*((Cq.one+g)*hf*(hf*(S+r*S))+(Cq.one-g)*hf*(hf*(S-r*S)))+hf*(P-n*P)*((Cq.one-g)*hf*(hf*(S+r*S))+(Cq.one+g)*hf*(hf*(S-r*S))) =
   hf*(P*(S*(Cq.one+n*(r*g)))):=by
 unfold hf
 apply Cq.ext'<;>simp<;>grind
theorem poly2 (P n S r g:Cq) :
  hf*(P+n*P)*((Cq.one+g)*hf*(hf*(S+r*S))+(Cq.one-g)*hf*(hf*(S-r*S)))-hf*(P-n*P)*((Cq.one-g)*hf*(hf*(S+r*S))+(Cq.one+g)*hf*(hf*(S-r*S))) =
   hf*(P*(S*(n+r*g))):=by
 unfold hf
 apply Cq.ext'<;>simp<;>grind
theorem Und.more {y0 y1 l f F:Cq}{M:M4}{s:Cq × Cq} (h:Und y1 l M F s) (hy:y1.nrm≠0) (hp:(y0+y1).nrm≠0) (hE:(Cq.one+stC y0 y1*(s.1*(f*f))).nrm≠0) :
  Und y0 l (mulC (matC y1 (f*f)) M) (f*F) (belC s y0 y1 f):=by
 obtain⟨nz,r,t⟩:=h
 obtain⟨m0,m1,m2,m3⟩:=M
 obtain⟨sr,sd⟩:=s
 dsimp only at *
 obtain⟨b,hb⟩:∃b,b=m0+m1*l:=⟨_,rfl⟩
 obtain⟨c,hc⟩:∃c,c=m2+m3*l:=⟨_,rfl⟩
 rw[← hb,← hc]at nz r t
 have ki:=Cq.inv_mul hy
 have nS:=inv_back hp (y0-y1)
 have eb:(mulC (matC y1 (f*f)) ⟨m0,m1,m2,m3⟩).m0+(mulC (matC y1 (f*f)) ⟨m0,m1,m2,m3⟩).m1*l=(Cq.one+f*f)*hf*b+(Cq.one-f*f)*hf*y1.inv*c:=by
  rw[hb,hc]
  unfold mulC matC
  dsimp only
  generalize y1.inv=k
  generalize f*f=g
  generalize (Cq.one+g)*hf=u
  generalize (Cq.one-g)*hf*k=v
  apply Cq.ext'<;>simp<;>grind
 have ec:(mulC (matC y1 (f*f)) ⟨m0,m1,m2,m3⟩).m2+(mulC (matC y1 (f*f)) ⟨m0,m1,m2,m3⟩).m3*l=(Cq.one-f*f)*hf*y1*b+(Cq.one+f*f)*hf*c:=by
  rw[hb,hc]
  unfold mulC matC
  dsimp only
  generalize f*f=g
  generalize (Cq.one+g)*hf=u
  generalize (Cq.one-g)*hf*y1=v
  apply Cq.ext'<;>simp<;>grind
 have hr:y1*b-c=sr*(y1*b+c):=by rw[r,inv_back nz]
 obtain⟨S,hS⟩:∃S,y1*b+c=S:=⟨_,rfl⟩
 obtain⟨P,hP⟩:∃P,y0+y1=P:=⟨_,rfl⟩
 obtain⟨n,hn⟩:∃n,stC y0 y1=n:=⟨_,rfl⟩
 have hn2:y0-y1=n*P:=by rw[← hn,← hP];unfold stC;rw[nS]
 rw[hS]at nz r t hr
 rw[hP]at hp
 obtain⟨e1,e2⟩:=half_sum hS hr
 obtain⟨e3,e4⟩:=half_sum2 hP hn2
 obtain⟨g,hg⟩:∃g,f*f=g:=⟨_,rfl⟩
 rw[hn,hg]at hE
 have x1:y1*((Cq.one+g)*hf*b+(Cq.one-g)*hf*y1.inv*c)=(Cq.one+g)*hf*(hf*(S+sr*S))+(Cq.one-g)*hf*(hf*(S-sr*S)):=by
  rw[← e1,← e2]
  have:y1*((Cq.one+g)*hf*b+(Cq.one-g)*hf*y1.inv*c)=(Cq.one+g)*hf*(y1*b)+(Cq.one-g)*hf*c*(y1.inv*y1):=by
   generalize y1.inv=k
   generalize (Cq.one+g)*hf=u
   generalize (Cq.one-g)*hf=v
   apply Cq.ext'<;>simp<;>grind
  rw[this,ki,Cq.mul_one]
 have x2:(Cq.one-g)*hf*y1*b+(Cq.one+g)*hf*c=(Cq.one-g)*hf*(hf*(S+sr*S))+(Cq.one+g)*hf*(hf*(S-sr*S)):=by
  rw[← e1,← e2,Cq.mul_assoc ((Cq.one-g)*hf)]
 have s1:y1*(y0*((Cq.one+g)*hf*b+(Cq.one-g)*hf*y1.inv*c)+((Cq.one-g)*hf*y1*b+(Cq.one+g)*hf*c))=hf*(P*(S*(Cq.one+n*(sr*g)))):=by
  rw[cq_left,← Cq.mul_assoc,Cq.mul_comm y1 y0,Cq.mul_assoc,x1,x2,e3,e4,poly1]
 have s2:y1*(y0*((Cq.one+g)*hf*b+(Cq.one-g)*hf*y1.inv*c)-((Cq.one-g)*hf*y1*b+(Cq.one+g)*hf*c))=hf*(P*(S*(n+sr*g))):=by
  have sl:∀a b c:Cq,a*(b-c)=a*b-a*c:=fun a b c=>by apply Cq.ext'<;>simp<;>grind
  rw[sl,← Cq.mul_assoc,Cq.mul_comm y1 y0,Cq.mul_assoc,x1,x2,e3,e4,poly2]
 have hh:hf.nrm≠0:=by unfold hf Cq.nrm;decide +kernel
 rw[hg]at eb ec
 have nz':(y0*((Cq.one+g)*hf*b+(Cq.one-g)*hf*y1.inv*c)+((Cq.one-g)*hf*y1*b+(Cq.one+g)*hf*c)).nrm≠0:=by
  refine nz_right (a:=y1) ?_
  rw[s1]
  exact nz_mul hh (nz_mul hp (nz_mul nz hE))
 refine⟨?_,?_,?_⟩
 ·rw[hg,eb,ec]
  exact nz'
 ·rw[hg,eb,ec]
  show(stC y0 y1+sr*(f*f))*(Cq.one+stC y0 y1*(sr*(f*f))).inv=_
  rw[hn,hg]
  refine quo_eq hE nz' (cq_cancel hy ?_)
  rw[swapA,s1,swapB,s2]
  generalize n+sr*g=A
  generalize Cq.one+n*(sr*g)=B
  unfold hf
  apply Cq.ext'<;>simp<;>grind
 ·rw[hg,eb,ec]
  show(Cq.one+stC y0 y1)*(f*sd)*(Cq.one+stC y0 y1*(sr*(f*f))).inv=_
  rw[hn,hg]
  refine quo_eq hE nz' (cq_cancel hy ?_)
  rw[swapA,s1]
  have t2:sd*S=(y1+y1)*F:=by rw[t,inv_back nz]
  have p2:(Cq.one+n)*P=y0+y0:=by rw[cq_right,Cq.one_mul,← hn2,← hP];apply Cq.ext'<;>simp<;>grind
  have:(Cq.one+n)*(f*sd)*(hf*(P*(S*(Cq.one+n*(sr*g)))))=((Cq.one+n)*P)*(f*(sd*S))*(hf*(Cq.one+n*(sr*g))):=by
   generalize Cq.one+n*(sr*g)=B
   generalize Cq.one+n=A
   unfold hf
   apply Cq.ext'<;>simp<;>grind
  rw[this,t2,p2]
  generalize Cq.one+n*(sr*g)=B
  unfold hf
  apply Cq.ext'<;>simp<;>grind
end Go.Proofs.YticobgianbecpaaGreatDoor
namespace Go.Proofs.YticobgianbecpaaGreatDoor
@[irreducible] def stpR (e:Int) (a b:Res):Res :=
 let d:=after e (mi a b)
 let s:=after d.q (pl a b)
 after s.q (qt d s)
structure Blw where
 r:Res
 t:Res
@[irreducible] def belR (A:Ask) (b:Box) (y0 y1:Res) (s:Blw):Blw :=
 let n:=stpR s.t.q y0 y1
 let g:=facR n.q A b 2
 let f:=facR g.q A b 1
 let z:=after f.q (ti s.r g)
 let k:=after z.q (ti n z)
 let E:=after k.q (pl oneR k)
 let u:=after E.q (pl n z)
 let r:=after u.q (qt u E)
 let p:=after r.q (pl oneR n)
 let m:=after p.q (ti f s.t)
 let v:=after m.q (ti p m)
 ⟨r,after v.q (qt v E)⟩
def admE (A:Ask):Nat→Int
 | 0=>0
 | k+1=>(admR (admE A k) A (A.med k)).q
def admY (A:Ask) (k:Nat):Res:=admR (admE A k) A (A.med k)
@[irreducible] def belS (A:Ask):Blw :=
 let r:=stpR (admE A (A.ls.length+2)) (admY A A.ls.length) (admY A (A.ls.length+1))
 ⟨r,after r.q (pl oneR r)⟩
def belG (A:Ask):Nat→Blw→Blw
 | 0,s=>s
 | j+1,s=>if s.t.q=0 then belG A j (belR A (A.med (j+1)) (admY A j) (admY A (j+1)) s)else s
def belT (A:Ask):Blw:=belG A A.ls.length (belS A)
theorem admE_dead {A:Ask} : ∀ {k:Nat},¬admE A k=0→∀j,¬admE A (k+j)=0
 | k,h,0=>h
 | k,h,j+1=>by
  have:=admE_dead h j
  show¬(admR (admE A (k+j)) A (A.med (k+j))).q=0
  intro c
  unfold admR at c
  dsimp only at c
  have nd:(norR (admE A (k+j)) A (A.med (k+j))).q=0:=by
   split at c
   ·exact c
   ·have c:=(after_val c).1
    have c:=(after_val c).1
    unfold idxR at c
    dsimp only at c
    split at c
    ·exact(after_val c).1
    ·exact(after_val (after_val (after_val (after_val c).1).1).1).1
  unfold norR nsqR at nd
  have c:=(after_val (after_val (after_val (after_val (after_val nd).1).1).1).1).1
  unfold idxR at c
  dsimp only at c
  split at c
  ·exact this (after_val c).1
  ·exact this (after_val (after_val (after_val (after_val c).1).1).1).1
theorem admE_zero {A:Ask}{k m:Nat} (h:admE A m=0) (hk:k≤m):admE A k=0:=by
 rcases Classical.em (admE A k=0)with c|c
 ·exact c
 ·have:=admE_dead c (m-k)
  rw[show k+(m-k)=m by omega]at this
  exact absurd h this
theorem admY_zero {A:Ask}{k m:Nat} (h:admE A m=0) (hk:k<m):admY A k=admR 0 A (A.med k)∧(admR 0 A (A.med k)).q=0:=by
 have e:=admE_zero h (show k≤m by omega)
 have e1:(admR (admE A k) A (A.med k)).q=0:=admE_zero h (show k+1≤m by omega)
 rw[e]at e1
 unfold admY
 rw[e]
 exact⟨rfl,e1⟩
theorem in_stp {e:Int}{a b:Res}{x y:Nat→Cq} (hx:In a x) (hy:In b y) (hq:(stpR e a b).q=0):e=0∧In (stpR e a b) (fun n=>stC (x n) (y n))∧Ev fun n=>(x n+y n).nrm≠0:=by
 unfold stpR at hq ⊢
 dsimp only at hq ⊢
 obtain⟨b1,q1,e1⟩:=after_val hq
 obtain⟨b2,q2,e2⟩:=after_val b1
 obtain⟨b3,q3,e3⟩:=after_val b2
 rw[e1]
 rw[e2,e3]at q1 ⊢
 have d:=in_mi hx hy q3
 have s:=in_pl hx hy q2
 have:=in_qt' d s q1
 exact⟨b3,this.1,this.2⟩
structure InS (s:Blw) (z:Nat→Cq × Cq):Prop where
 r:In s.r fun n=>(z n).1
 t:In s.t fun n=>(z n).2
theorem in_bel {A:Ask}{P:PA}{b:Box}{p:PL}{y0 y1:Res}{Y0 Y1:Nat→Cq}{s:Blw}{z:Nat→Cq × Cq} (hP:P.at A) (hA:0≤A.ix) (w0:1≤A.wl) (h:PL.ok p b) (h0:In y0 Y0) (h1:In y1 Y1) (hs:s.t.q=0→InS s z)
  (hq:(belR A b y0 y1 s).t.q=0):InS (belR A b y0 y1 s) (fun n=>belC (z n) (Y0 n) (Y1 n) (faN P p n))∧(Ev fun n=>(Y0 n+Y1 n).nrm≠0)∧(Ev fun n=>(Cq.one+stC (Y0 n) (Y1 n)*((z n).1*(faN P p n*faN P p n))).nrm≠0)∧s.t.q=0:=by
 unfold belR at hq ⊢
 dsimp only at hq ⊢
 have b1:=(after_val hq).1
 have b2:=(after_val b1).1
 have b3:=(after_val b2).1
 have b4:=(after_val b3).1
 have b5:=(after_val b4).1
 have b6:=(after_val b5).1
 have b7:=(after_val b6).1
 have b8:=(after_val b7).1
 have b9:=(after_val b8).1
 have f1:=in_fac1 hP hA h.i h.n h.l h.t w0 b9
 have f2:=in_fac2 hP hA h.i h.n h.l h.t w0 f1.1
 have n1:=in_stp h0 h1 f2.1
 have S:=hs n1.1
 have iz:=in_after b8 fun q=>in_ti S.r f2.2 q
 have ik:=in_after b7 fun q=>in_ti n1.2.1 iz q
 have iE:=in_after b6 fun q=>in_pl in_one ik q
 have iu:=in_after b5 fun q=>in_pl n1.2.1 iz q
 have ir:=in_after b4 fun q=>(in_qt' iu iE q).1
 have ip:=in_after b3 fun q=>in_pl in_one n1.2.1 q
 have im:=in_after b2 fun q=>in_ti f1.2 S.t q
 have iv:=in_after b1 fun q=>in_ti ip im q
 have it:=in_after hq fun q=>(in_qt' iv iE q).1
 exact⟨⟨ir,it⟩,n1.2.2,(in_qt' iu iE (after_val b4).2.1).2,n1.1⟩
noncomputable def lowC (P:PA) (n j:Nat):List (Cq × Cq):=(P.ls.map (layC P n)).drop j
theorem Lays.len {ps:List PL}{bs:List Box} (h:Lays ps bs):ps.length=bs.length:=by
 induction h with
 | nil=>rfl
 | cons _ _ ih=>simp[ih]
theorem lays_at:∀ {ps:List PL}{bs:List Box} (_:Lays ps bs){j:Nat} (hj:j<bs.length),∃p,ps[j]?=some p∧PL.ok p bs[j]
 | _,_,.cons h t,0,_=>⟨_,rfl,h⟩
 | _,_,.cons h t,j+1,hj=>by
  obtain⟨p,h1,h2⟩:=lays_at t (j:=j) (by simpa using hj)
  exact⟨p,by simpa using h1,h2⟩
theorem med_at {A:Ask}{j:Nat} (hj:j<A.ls.length):A.med (j+1)=A.ls[j]:=by unfold Ask.med;rw[if_neg (by omega)];simp[hj]
noncomputable def admN (P:PA) (n k:Nat):Cq:=if k=0 then adN P (frontP P) n else((P.ls[k-1]?).map fun p=>adN P p n).getD (adN P (backP P) n)
theorem in_admN {A:Ask}{P:PA} (h:P.ok A){k:Nat} (hk:k≤A.ls.length+1) (hq:(admR 0 A (A.med k)).q=0):In (admR 0 A (A.med k)) (fun n=>admN P n k):=by
 unfold admN
 match k,hk with
 | 0,_=>exact(in_front h hq).2
 | j+1,hk =>
  by_cases c:j<A.ls.length
  ·obtain⟨p,h1,h2⟩:=lays_at h.ls c
   have e:(fun n=>if j+1=0 then adN P (frontP P) n else(Option.map (fun p=>adN P p n) P.ls[j+1-1]?).getD (adN P (backP P) n))=adN P p:=by
    funext n
    rw[if_neg (by omega),Nat.add_sub_cancel,h1]
    rfl
   rw[e]
   rw[med_at c]at hq ⊢
   exact(in_adm h.i h.ix h2.i h2.n h2.l hq).2.1
  ·obtain rfl:j=A.ls.length:=by omega
   have len:P.ls.length=A.ls.length:=h.ls.len
   have e:(fun n=>if A.ls.length+1=0 then adN P (frontP P) n else(Option.map (fun p=>adN P p n) P.ls[A.ls.length+1-1]?).getD (adN P (backP P) n))=adN P (backP P):=by
    funext n
    rw[if_neg (by omega),Nat.add_sub_cancel,List.getElem?_eq_none (by omega)]
    rfl
   rw[e]
   exact(in_back h hq).2
theorem low_at {P:PA}{n j:Nat}{p:PL} (h:P.ls[j]?=some p):lowC P n j=(adN P p n,faN P p n)::lowC P n (j+1):=by
 unfold lowC
 obtain⟨hj,e⟩:=List.getElem?_eq_some_iff.1 h
 rw[List.drop_eq_getElem_cons (by simpa using hj)]
 simp[e,layC]
theorem in_run_bel {A:Ask}{P:PA} (h:P.ok A) (ha:admE A (A.ls.length+2)=0) (nzy:∀p∈P.ls,Ev fun n=>(adN P p n).nrm≠0):∀(j:Nat),j≤A.ls.length→∀(s:Blw) (z:Nat→Cq × Cq),
  (s.t.q=0→InS s z∧Ev fun n=>Und (admN P n j) (adN P (backP P) n) (prodC (lowC P n j)) (facC (lowC P n j)) (z n))→(belG A j s).t.q=0 →
  ∃z',InS (belG A j s) z'∧Ev fun n=>Und (admN P n 0) (adN P (backP P) n) (prodC (lowC P n 0)) (facC (lowC P n 0)) (z' n)
 | 0,_,s,z,hs,hq=>⟨z,hs hq⟩
 | j+1,hj,s,z,hs,hq=>by
  unfold belG at hq ⊢
  by_cases c:s.t.q=0
  ·rw[if_pos c]at hq ⊢
   obtain⟨p,h1,h2⟩:=lays_at h.ls (show j<A.ls.length by omega)
   obtain⟨y0,y0q⟩:=admY_zero ha (show j<A.ls.length+2 by omega)
   obtain⟨y1,y1q⟩:=admY_zero ha (show j+1<A.ls.length+2 by omega)
   rw[y0,y1,med_at (show j<A.ls.length by omega)]at hq ⊢
   have i0:=in_admN h (show j≤A.ls.length+1 by omega) y0q
   have i1:In (admR 0 A A.ls[j]) (adN P p):=by
    rw[med_at (show j<A.ls.length by omega)]at y1q
    exact(in_adm h.i h.ix h2.i h2.n h2.l y1q).2.1
   refine in_run_bel h ha nzy j (by omega) _ (fun n=>belC (z n) (admN P n j) (adN P p n) (faN P p n)) (fun q => ?_) hq
   obtain⟨a1,a2,a3,a4⟩:=in_bel h.i h.ix h.w h2 i0 i1 (fun q=>(hs q).1) q
   refine⟨a1,?_⟩
   have hm:p∈P.ls:=List.mem_of_getElem? h1
   refine(((hs c).2.and a2).and (a3.and (nzy p hm))).mono fun n ⟨⟨k1,k2⟩,k3,k4⟩ => ?_
   have ey:admN P n (j+1)=adN P p n:=by unfold admN;rw[if_neg (by omega),Nat.add_sub_cancel,h1];rfl
   rw[ey]at k1
   rw[low_at h1]
   exact k1.more k4 k2 k3
  ·rw[if_neg c]at hq
   exact absurd hq c
theorem bel_adm {A:Ask} (hq:(belS A).t.q=0):admE A (A.ls.length+2)=0:=by
 unfold belS stpR at hq
 dsimp only at hq
 exact(after_val (after_val (after_val (after_val hq).1).1).1).1
theorem belG_zero {A:Ask} : ∀ {j:Nat}{s:Blw},(belG A j s).t.q=0→s.t.q=0
 | 0,_,h=>h
 | j+1,s,h=>by
  unfold belG at h
  by_cases c:s.t.q=0
  ·exact c
  ·rw[if_neg c]at h;exact h
theorem in_below {A:Ask}{P:PA} (h:P.ok A) (hq:(belT A).t.q=0) (nzy:∀p∈P.ls,Ev fun n=>(adN P p n).nrm≠0):In (belT A).r (ampN P false)∧In (belT A).t (ampN P true):=by
 unfold belT at hq ⊢
 have q0:=belG_zero hq
 have ha:=bel_adm q0
 obtain⟨y0,y0q⟩:=admY_zero ha (show A.ls.length<A.ls.length+2 by omega)
 obtain⟨y1,y1q⟩:=admY_zero ha (show A.ls.length+1<A.ls.length+2 by omega)
 have i0:=in_admN h (show A.ls.length≤A.ls.length+1 by omega) y0q
 have i1:=(in_back h y1q).2
 have len:P.ls.length=A.ls.length:=h.ls.len
 obtain⟨z,hz,hu⟩:=in_run_bel h ha nzy A.ls.length (Nat.le_refl _) (belS A) (fun n=>(stC (admN P n A.ls.length) (adN P (backP P) n),Cq.one+stC (admN P n A.ls.length) (adN P (backP P) n))) (fun q=>by
  unfold belS at q ⊢
  dsimp only at q ⊢
  rw[y0,y1]at q ⊢
  obtain⟨b1,q1,e1⟩:=after_val q
  obtain⟨_,is,nz⟩:=in_stp i0 i1 b1
  rw[e1]
  refine⟨⟨is,in_pl in_one is q1⟩,nz.mono fun n k => ?_⟩
  have el:lowC P n A.ls.length = []:=by unfold lowC;exact List.drop_eq_nil_of_le (by simp[len])
  rw[el]
  exact Und.base k) hq
 have e0:∀n,admN P n 0=adN P (frontP P) n:=fun n=>rfl
 have er:∀n,thrN P n=(prodC (lowC P n 0),facC (lowC P n 0)):=fun n=>by
  unfold thrN
  rw[run_is]
  show(mulC oneM _,_)=_
  rw[one_mul4,Cq.one_mul]
  rfl
 refine⟨hz.r.congr (hu.mono fun n k => ?_),hz.t.congr (hu.mono fun n k => ?_)⟩
 ·rw[k.r,e0]
  unfold ampN ampC
  rw[er]
  rfl
 ·rw[k.t,e0]
  unfold ampN ampC
  rw[er]
  rfl
theorem below_close {A:Ask} (a:AskOk A) (hq:(belT A).t.q=0) (fs:Bool) (q:(ampR A fs).q=0):Close (ampR A fs) (if fs=true then(belT A).t else(belT A).r):=by
 obtain⟨ps,hp⟩:=lays_ex a.ls
 have P:=ptA_ok a hp
 have i:=in_amp P q
 have b:=in_below P hq i.2.1
 cases fs
 ·exact i.1.meet b.1
 ·exact i.1.meet b.2
end Go.Proofs.YticobgianbecpaaGreatDoor
namespace Go.Proofs.YticobgianbecpaaGreatDoor
structure Pth where
 s:Res
 t:Res
 q:Int
@[irreducible] def pthStep (x:Res) (p:Pth):Pth :=
 let m:=after p.q (ti p.t x)
 let t:=after m.q (mi noneR m)
 let s:=after t.q (pl p.s t)
 ⟨s,t,s.q⟩
def pthAt (x:Res):Nat→Pth
 | 0=>⟨oneR,oneR,x.q⟩
 | k+1=>pthStep x (pthAt x k)
@[irreducible] def bigR (R:Res):Int:=rtu (R.a*R.a+R.b*R.b)+R.c
def powQ (s:Int):Nat→Int
 | 0=>1048576
 | k+1=>(powQ s k*s+1048575)/1048576
@[irreducible] def pthN (A:Ask):Res:=stpR (admE A 3) (admY A 0) (admY A 1)
@[irreducible] def pthY (A:Ask):Res:=stpR (pthN A).q (admY A 1) (admY A 2)
@[irreducible] def pthG (A:Ask):Res:=facR (pthY A).q A (A.med 1) 2
@[irreducible] def pthZ (A:Ask):Res:=after (pthG A).q (ti (pthY A) (pthG A))
@[irreducible] def pthX (A:Ask):Res:=after (pthZ A).q (ti (pthN A) (pthZ A))
@[irreducible] def pthK (A:Ask) (c:Nat):Res :=
 let a:=after (pthAt (pthX A) c).q (ti (pthN A) (pthN A))
 let b:=after a.q (mi oneR a)
 after b.q (ti b (pthZ A))
@[irreducible] def pthO (A:Ask) (c:Nat):Res :=
 let a:=after (pthK A c).q (ti (pthK A c) (pthAt (pthX A) c).s)
 after a.q (pl (pthN A) a)
def pthE (A:Ask) (c:Nat):Int:=(bigR (pthK A c)*powQ (bigR (pthX A)) (c+1)+(1048576-bigR (pthX A))-1)/(1048576-bigR (pthX A))
@[irreducible] def pthM (A:Ask) (c:Nat):Res :=
 if ¬(pthK A c).q=0 then .bad (pthK A c).q
 else if 1048576≤bigR (pthX A)then .bad 24
 else if ¬(pthO A c).q=0 then .bad (pthO A c).q
 else if 67108864<(pthO A c).c+pthE A c then .bad 8
 else .good (pthO A c).a (pthO A c).b ((pthO A c).c+pthE A c)
def Most (z:Nat→Cq) (b:Rat):Prop:=0≤b∧∀d:Rat,0<d→Ev fun n=>(z n).nrm≤(b+d)*(b+d)
theorem small_ex {d M:Rat} (hd:0<d) (hM:0≤M):∃e:Rat,0<e∧e≤1∧e*(M+1)≤d:=by
 have hp:0<(M+1)⁻¹:=Rat.inv_pos.2 (by grind)
 have hm:(M+1)*(M+1)⁻¹=1:=Rat.mul_inv_cancel _ (by grind)
 generalize (M+1)⁻¹=i at *
 have hd1:d*i*(M+1)=d:=by
  have:d*i*(M+1)=d*((M+1)*i):=by grind
  rw[this,hm];grind
 rcases Rat.le_total (a:=d*i) (b:=1)with h|h
 ·exact⟨d*i,Rat.mul_pos hd hp,h,by rw[hd1];grind⟩
 ·refine⟨1,by decide,by decide,?_⟩
  have:=Rat.mul_le_mul_of_nonneg_right h (show 0≤M+1 by grind)
  rw[hd1]at this
  exact this
theorem Most.mul {z w:Nat→Cq}{a b:Rat} (h:Most z a) (k:Most w b):Most (fun n=>z n*w n) (a*b):=by
 refine⟨Rat.mul_nonneg h.1 k.1,fun d hd => ?_⟩
 have ha:=h.1
 have hb:=k.1
 obtain⟨e,e0,e1,e2⟩:=small_ex hd (show 0≤a+b by grind)
 refine((h.2 e e0).and (k.2 e e0)).mono fun n ⟨p,q⟩ => ?_
 dsimp only
 rw[Cq.nrm_mul]
 have m:=rmul_le (Cq.nrm_nn _) p (Cq.nrm_nn _) q
 have l1:e*e≤e*1:=Rat.mul_le_mul_of_nonneg_left e1 (by grind)
 have l:(a+e)*(b+e)≤a*b+d:=by grind
 have l0:0≤(a+e)*(b+e):=Rat.mul_nonneg (by grind) (by grind)
 have:=rsq_mono l0 l
 grind
theorem Most.congr {z w:Nat→Cq}{b:Rat} (h:Most z b) (k:Ev fun n=>z n=w n):Most w b :=
 ⟨h.1,fun d hd=>((h.2 d hd).and k).mono fun n ⟨p,q⟩=>by rw[← q];exact p⟩
theorem Most.le {z:Nat→Cq}{a b:Rat} (h:Most z a) (l:a≤b):Most z b :=
 ⟨by have:=h.1;grind,fun d hd=>(h.2 d hd).mono fun n p=>by have:=rsq_mono (a:=a+d) (b:=b+d) (by have:=h.1;grind) (by grind);grind⟩
theorem most_one:Most (fun _=>Cq.one) 1:=⟨by decide,fun d hd=>Ev.of fun n=>by
 have e:Cq.one.nrm=1:=by decide +kernel
 rw[e]
 have:=rsq_mono (a:=1) (b:=1+d) (by decide) (by grind)
 grind⟩
theorem In.most {R:Res}{z:Nat→Cq} (h:In R z):Most z ((bigR R:Rat)/1048576):=by
 obtain⟨sx,sy⟩:=h.1.right.sh
 obtain⟨r0,r1⟩:=right_rad h.1.right
 have sq:=sx.sq sy
 have u1:=rtu_sq sq.1 (by omega)
 have u0:=rtu_bd sq.1 (by omega)
 have hb:bigR R=rtu (R.a*R.a+R.b*R.b)+R.c:=by unfold bigR;rfl
 rw[hb]
 obtain⟨A,hA⟩:∃A,rtu (R.a*R.a+R.b*R.b)=A:=⟨_,rfl⟩
 rw[hA]at u0 u1 ⊢
 have hA0:(0:Rat)≤(A:Rat):=by exact_mod_cast u0.1
 have hr0:(0:Rat)≤(R.c:Rat):=r0
 have hc:(⟨R.a,R.b⟩:Cq).nrm≤(A:Rat)*A:=by
  have:=Rat.intCast_le_intCast.2 u1
  push_cast at this
  unfold Cq.nrm
  exact this
 refine⟨by rw[Rat.div_def];exact Rat.mul_nonneg (by push_cast;grind) (by decide +kernel),fun d hd => ?_⟩
 refine(h.2.2 (1048576*d) (by grind)).mono fun n p => ?_
 have t:=p.len hA0 hc
 rw[Cq.nrm_scale]at t
 have e:((A+R.c:Int):Rat)/1048576=(A+R.c)*(1/1048576):=by rw[Rat.div_def];push_cast;grind
 rw[e]
 generalize (z n).nrm=m at *
 generalize (A:Rat)=x at *
 generalize (R.c:Rat)=y at *
 grind
theorem Most.quo {z x w:Nat→Cq}{b s v:Rat} (h:Most w b) (k:Most x s) (hs:s<1) (hv:v*(1-s)=b) (hv0:0≤v) (e:Ev fun n=>z n*(Cq.one+x n)=w n):Most z v:=by
 refine⟨hv0,fun d hd => ?_⟩
 have s0:=k.1
 have hu:0<1-s:=by grind
 obtain⟨u,hu1⟩:∃u,u=1-s:=⟨_,rfl⟩
 rw[← hu1]at hu hv
 obtain⟨f,f0,f1,f2⟩:=small_ex (Rat.mul_pos hd hu) (show 0≤v+d by grind)
 obtain⟨g,g0,g1,g2⟩:=small_ex (show 0<u*(1/2)by grind) (show(0:Rat)≤0 by decide)
 obtain⟨c,c0,c1,c2⟩:∃c:Rat,0<c∧c*(v+d+1)≤d*u∧c≤u*(1/2):=by
  rcases Rat.le_total (a:=f) (b:=g)with l|l
  ·exact⟨f,f0,f2,by grind⟩
  ·refine⟨g,g0,?_,by grind⟩
   have:=Rat.mul_le_mul_of_nonneg_right l (show 0≤v+d+1 by grind)
   grind
 refine(((h.2 c c0).and (k.2 c c0)).and e).mono fun n ⟨⟨p,q⟩,r⟩ => ?_
 have hn:Cq.Near (Cq.one+x n) Cq.one (s+c):=⟨by grind,by
  have:Cq.one+x n-Cq.one=x n:=by apply Cq.ext'<;>simp<;>grind
  rw[this];exact q⟩
 have far:=hn.far (D:=1) (by decide +kernel) (by grind)
 have e1:1-(s+c)=u-c:=by grind
 rw[e1]at far
 have m:=congrArg Cq.nrm r
 rw[Cq.nrm_mul]at m
 rw[← m]at p
 have nz:=(z n).nrm_nn
 have l1:=Rat.mul_le_mul_of_nonneg_left far nz
 have pos:0<u-c:=by grind
 have l2:b+c≤(v+d)*(u-c):=by rw[← hv];grind
 have l3:=rsq_mono (a:=b+c) (by have:=h.1;grind) l2
 have l4:(z n).nrm*((u-c)*(u-c))≤(v+d)*(v+d)*((u-c)*(u-c)):=by grind
 exact rle_of_mul (Rat.mul_pos pos pos) l4
def tmC (x:Cq):Nat→Cq
 | 0=>Cq.one
 | k+1=>zr-tmC x k*x
def smC (x:Cq):Nat→Cq
 | 0=>Cq.one
 | k+1=>smC x k+tmC x (k+1)
theorem smC_is (x:Cq):∀k,smC x k*(Cq.one+x)=Cq.one-tmC x (k+1)
 | 0=>by
  show Cq.one*(Cq.one+x)=Cq.one-(zr-Cq.one*x)
  unfold zr
  apply Cq.ext'<;>simp<;>grind
 | k+1=>by
  have h:=smC_is x k
  show(smC x k+tmC x (k+1))*(Cq.one+x)=Cq.one-(zr-tmC x (k+1)*x)
  generalize tmC x (k+1)=t at *
  have:(smC x k+t)*(Cq.one+x)=smC x k*(Cq.one+x)+t*(Cq.one+x):=by apply Cq.ext'<;>simp<;>grind
  rw[this,h]
  unfold zr
  apply Cq.ext'<;>simp<;>grind
theorem tmC_nrm (x:Cq) (k:Nat):(tmC x (k+1)).nrm=(tmC x k*x).nrm:=by
 show(zr-tmC x k*x).nrm=_
 generalize tmC x k*x=u
 unfold zr Cq.nrm
 simp
 grind
def rpw (s:Rat):Nat→Rat
 | 0=>1
 | k+1=>rpw s k*s
theorem rpw_nn {s:Rat} (h:0≤s):∀k,0≤rpw s k
 | 0=>show(0:Rat)≤1 by decide
 | k+1=>Rat.mul_nonneg (rpw_nn h k) h
theorem tm_most {x:Nat→Cq}{s:Rat} (h:Most x s):∀k,Most (fun n=>tmC (x n) k) (rpw s k)
 | 0=>most_one
 | k+1=>by
  have t:=(tm_most h k).mul h
  exact⟨t.1,fun d hd=>(t.2 d hd).mono fun n p=>by dsimp only;rw[tmC_nrm];exact p⟩
theorem powQ_ge {s:Int} (h0:0≤s):∀k,0≤powQ s k∧1048576*rpw ((s:Rat)/1048576) k≤(powQ s k:Rat)
 | 0=>⟨show(0:Int)≤1048576 by decide,show(1048576:Rat)*1≤((1048576:Int):Rat)by decide +kernel⟩
 | k+1=>by
  obtain⟨h1,h2⟩:=powQ_ge h0 k
  have hm:=Int.mul_nonneg h1 h0
  have up:powQ s k*s≤1048576*((powQ s k*s+1048575)/1048576):=by omega
  have nn:0≤(powQ s k*s+1048575)/1048576:=by omega
  refine⟨nn,?_⟩
  show 1048576*(rpw ((s:Rat)/1048576) k*((s:Rat)/1048576))≤(((powQ s k*s+1048575)/1048576:Int):Rat)
  have up2:=Rat.intCast_le_intCast.2 up
  generalize (powQ s k*s+1048575)/1048576=Y at *
  push_cast at up2
  have hs0:(0:Rat)≤(s:Rat):=by exact_mod_cast h0
  have e:(s:Rat)/1048576=s*(1/1048576):=by rw[Rat.div_def];grind
  rw[e]at h2 ⊢
  have t:=Rat.mul_le_mul_of_nonneg_right h2 hs0
  generalize rpw (↑s*(1/1048576)) k=W at *
  generalize (s:Rat)=S at *
  generalize (powQ s k:Rat)=Q at *
  grind
theorem in_sum {X:Res}{x:Nat→Cq} (h:X.q=0→In X x):∀k,(pthAt X k).q=0→In X x∧In (pthAt X k).s (fun n=>smC (x n) k)∧In (pthAt X k).t (fun n=>tmC (x n) k)
 | 0,hq=>⟨h hq,in_one,in_one⟩
 | k+1,hq=>by
  unfold pthAt pthStep at hq ⊢
  dsimp only at hq ⊢
  have b1:=(after_val hq).1
  have b2:=(after_val b1).1
  have b3:=(after_val b2).1
  obtain⟨hx,hs,ht⟩:=in_sum h k b3
  have im:=in_after b2 fun q=>in_ti ht hx q
  have it:=in_after b1 fun q=>in_mi in_none im q
  have is:=in_after hq fun q=>in_pl hs it q
  exact⟨hx,is,it⟩
theorem rest_is (n z x K S t:Cq) (hx:x=n*z) (hK:K=(Cq.one-n*n)*z) (hS:S*(Cq.one+x)=Cq.one-t) (hE:(Cq.one+x).nrm≠0) :
  ((n+z)*(Cq.one+x).inv-(n+K*S))*(Cq.one+x)=K*t:=by
 have e1:((n+z)*(Cq.one+x).inv-(n+K*S))*(Cq.one+x)=(n+z)*(Cq.one+x).inv*(Cq.one+x)-n*(Cq.one+x)-K*(S*(Cq.one+x)):=by
  generalize (Cq.one+x).inv=i
  generalize Cq.one+x=y
  apply Cq.ext'<;>simp<;>grind
 rw[e1,inv_back hE,hS,hK,hx]
 apply Cq.ext'<;>simp<;>grind
theorem up_ge {a b:Int} (hb:0<b):a≤b*((a+b-1)/b):=by
 have:=Int.emod_lt_of_pos (a+b-1) hb
 have:=Int.emod_add_mul_ediv (a+b-1) b
 omega
theorem in_more {R:Res}{z w:Nat→Cq}{E:Int}{v:Rat} (h:In R z) (hm:Most (fun n=>w n-z n) v) (hv:1048576*v≤E) (hE:R.c+E≤67108864):In (.good R.a R.b (R.c+E)) w:=by
 obtain⟨e1,e2,e3,e4⟩:=quad_good R.a R.b (R.c+E)
 have hr:=h.1.right
 have v0:=hm.1
 have E0:0≤E:=by
  have:(0:Rat)≤(E:Rat):=by grind
  exact_mod_cast this
 have hR:Right R.a R.b (R.c+E):=⟨hr.1,by have:=hr.2.1;omega,hE⟩
 refine⟨hR,e4,fun d hd => ?_⟩
 rw[e1,e2,e3]
 refine((h.2.2 (d/2) (by grind)).and (hm.2 (d/2097152) (by grind))).mono fun n ⟨p,q⟩ => ?_
 have n1:Cq.Near ((w n).scale 1048576) ((z n).scale 1048576) (1048576*(v+d/2097152)):=by
  refine⟨by grind,?_⟩
  have e:(w n).scale 1048576-(z n).scale 1048576=(w n-z n).scale 1048576:=by apply Cq.ext'<;>simp<;>grind
  rw[e,Cq.nrm_scale]
  grind
 exact(n1.trans p).le (by push_cast;grind)
theorem in_paths {A:Ask}{P:PA} (h:P.ok A) (hl:A.ls.length=1) (c:Nat) (hq:(pthM A c).q=0) :
  ∃p,P.ls = [p]∧admE A 3=0∧In (pthM A c) (fun n=>(belC (stC (admN P n 1) (admN P n 2),Cq.one+stC (admN P n 1) (admN P n 2)) (admN P n 0) (admN P n 1) (faN P p n)).1) ∧
   (Ev fun n=>(admN P n 1+admN P n 2).nrm≠0)∧(Ev fun n=>(admN P n 0+admN P n 1).nrm≠0)∧Ev fun n=>(Cq.one+stC (admN P n 0) (admN P n 1)*(stC (admN P n 1) (admN P n 2)*(faN P p n*faN P p n))).nrm≠0:=by
 obtain⟨p,h1,h2⟩:=lays_at h.ls (show 0<A.ls.length by omega)
 have len:P.ls.length=A.ls.length:=h.ls.len
 have hp:P.ls = [p]:=by
  match hP:P.ls,len with
  | [],l=>simp[hl]at l
  | [a],_=>rw[hP]at h1;simp at h1;rw[h1]
  | a::b::l,k=>rw[hl]at k;simp at k
 unfold pthM at hq ⊢
 by_cases c1:(pthK A c).q=0
 case neg=>rw[if_pos c1,(quad_bad _).2.2.2]at hq;exact absurd hq c1
 rw[if_neg (fun k=>k c1)]at hq ⊢
 by_cases c2:1048576≤bigR (pthX A)
 case pos=>rw[if_pos c2,(quad_bad _).2.2.2]at hq;exact absurd hq (by decide)
 rw[if_neg c2]at hq ⊢
 by_cases c3:(pthO A c).q=0
 case neg=>rw[if_pos c3,(quad_bad _).2.2.2]at hq;exact absurd hq c3
 rw[if_neg (fun k=>k c3)]at hq ⊢
 by_cases c4:67108864<(pthO A c).c+pthE A c
 case pos=>rw[if_pos c4,(quad_bad _).2.2.2]at hq;exact absurd hq (by decide)
 rw[if_neg c4]
 clear hq
 have k1:(pthAt (pthX A) c).q=0:=by
  unfold pthK at c1;dsimp only at c1
  exact(after_val (after_val (after_val c1).1).1).1
 have dead:∀k,(pthAt (pthX A) k).q=0→(pthX A).q=0:=fun k=>by
  induction k with
  | zero=>exact fun h=>h
  | succ k ih =>
   intro h
   unfold pthAt pthStep at h
   dsimp only at h
   exact ih (after_val (after_val (after_val h).1).1).1
 have xq:=dead c k1
 have zq:(pthZ A).q=0:=by unfold pthX at xq;exact(after_val xq).1
 have gq:(pthG A).q=0:=by unfold pthZ at zq;exact(after_val zq).1
 have hA0:A.med 1=A.ls[0]:=med_at (show 0<A.ls.length by omega)
 have fg:(pthY A).q=0∧In (pthG A) (fun n=>faN P p n*faN P p n):=by
  unfold pthG at gq ⊢
  rw[hA0]at gq ⊢
  exact in_fac2 h.i h.ix h2.i h2.n h2.l h2.t h.w gq
 have yq:=fg.1
 have nq:(pthN A).q=0:=by
  have y:=yq
  unfold pthY stpR at y;dsimp only at y
  exact(after_val (after_val (after_val y).1).1).1
 have aq:admE A 3=0:=by
  have y:=nq
  unfold pthN stpR at y;dsimp only at y
  exact(after_val (after_val (after_val y).1).1).1
 obtain⟨y0,y0q⟩:=admY_zero aq (show 0<3 by omega)
 obtain⟨y1,y1q⟩:=admY_zero aq (show 1<3 by omega)
 obtain⟨y2,y2q⟩:=admY_zero aq (show 2<3 by omega)
 have i0:=in_admN h (show 0≤A.ls.length+1 by omega) y0q
 have i1:=in_admN h (show 1≤A.ls.length+1 by omega) y1q
 have i2:=in_admN h (show 2≤A.ls.length+1 by omega) y2q
 have sn:In (pthN A) (fun n=>stC (admN P n 0) (admN P n 1))∧Ev fun n=>(admN P n 0+admN P n 1).nrm≠0:=by
  have q:=nq
  unfold pthN at q ⊢
  rw[y0,y1]at q ⊢
  exact(in_stp i0 i1 q).2
 have sy:In (pthY A) (fun n=>stC (admN P n 1) (admN P n 2))∧Ev fun n=>(admN P n 1+admN P n 2).nrm≠0:=by
  have q:=yq
  unfold pthY at q ⊢
  rw[y1,y2]at q ⊢
  exact(in_stp i1 i2 q).2
 have iz:In (pthZ A) (fun n=>stC (admN P n 1) (admN P n 2)*(faN P p n*faN P p n)):=by
  have q:=zq
  unfold pthZ at q ⊢
  exact in_after q fun k=>in_ti sy.1 fg.2 k
 have ix:In (pthX A) (fun n=>stC (admN P n 0) (admN P n 1)*(stC (admN P n 1) (admN P n 2)*(faN P p n*faN P p n))):=by
  have q:=xq
  unfold pthX at q ⊢
  exact in_after q fun k=>in_ti sn.1 iz k
 obtain⟨_,isum,_⟩:=in_sum (fun _=>ix) c k1
 have ik:In (pthK A c) (fun n=>(Cq.one-stC (admN P n 0) (admN P n 1)*stC (admN P n 0) (admN P n 1))*(stC (admN P n 1) (admN P n 2)*(faN P p n*faN P p n))):=by
  have q:=c1
  unfold pthK at q ⊢
  dsimp only at q ⊢
  have b1:=(after_val q).1
  have b2:=(after_val b1).1
  have ia:=in_after b2 fun q=>in_ti sn.1 sn.1 q
  have ib:=in_after b1 fun q=>in_mi in_one ia q
  exact in_after q fun q=>in_ti ib iz q
 have io:In (pthO A c) (fun n=>stC (admN P n 0) (admN P n 1)+(Cq.one-stC (admN P n 0) (admN P n 1)*stC (admN P n 0) (admN P n 1))*(stC (admN P n 1) (admN P n 2)*(faN P p n*faN P p n))*smC (stC (admN P n 0) (admN P n 1)*(stC (admN P n 1) (admN P n 2)*(faN P p n*faN P p n))) c):=by
  have q:=c3
  unfold pthO at q ⊢
  dsimp only at q ⊢
  have b1:=(after_val q).1
  have ia:=in_after b1 fun q=>in_ti ik isum q
  exact in_after q fun q=>in_pl sn.1 ia q
 have mx:=ix.most
 have mk:=ik.most
 have hs0:0≤bigR (pthX A):=by
  have:=mx.1
  rw[Rat.div_def]at this
  have t:(0:Rat)≤(bigR (pthX A):Rat):=by grind
  exact_mod_cast t
 have hw0:0≤bigR (pthK A c):=by
  have:=mk.1
  rw[Rat.div_def]at this
  have t:(0:Rat)≤(bigR (pthK A c):Rat):=by grind
  exact_mod_cast t
 have hE:Ev fun n=>(Cq.one+stC (admN P n 0) (admN P n 1)*(stC (admN P n 1) (admN P n 2)*(faN P p n*faN P p n))).nrm≠0:=by
  obtain⟨s,hs⟩:∃s:Rat,s=(bigR (pthX A):Rat)/1048576:=⟨_,rfl⟩
  rw[← hs]at mx
  have s1:s<1:=by
   have:(bigR (pthX A):Rat)<1048576:=Rat.intCast_lt_intCast.2 (show bigR (pthX A)<1048576 by omega)
   rw[hs,Rat.div_def]
   grind
  refine(mx.2 ((1-s)*(1/2)) (by grind)).mono fun n q => ?_
  dsimp only at q
  have s0:=mx.1
  have hn:Cq.Near (Cq.one+stC (admN P n 0) (admN P n 1)*(stC (admN P n 1) (admN P n 2)*(faN P p n*faN P p n))) Cq.one (s+(1-s)*(1/2)):=⟨by grind,by
   generalize stC (admN P n 0) (admN P n 1)*(stC (admN P n 1) (admN P n 2)*(faN P p n*faN P p n))=x at *
   have:Cq.one+x-Cq.one=x:=by apply Cq.ext'<;>simp<;>grind
   rw[this];exact q⟩
  have far:=hn.far (D:=1) (by decide +kernel) (by grind)
  intro k
  rw[k]at far
  have:0<1-(s+(1-s)*(1/2)):=by grind
  have:=Rat.mul_pos this this
  grind
 have mt:=mk.mul (tm_most mx (c+1))
 obtain⟨s,hs⟩:∃s:Rat,s=(bigR (pthX A):Rat)/1048576:=⟨_,rfl⟩
 obtain⟨W,hW⟩:∃W:Rat,W=(bigR (pthK A c):Rat)/1048576:=⟨_,rfl⟩
 have pq:=(powQ_ge hs0 (c+1)).2
 rw[← hs]at mt mx pq
 rw[← hW]at mt mk
 have s1:s<1:=by
  have:(bigR (pthX A):Rat)<1048576:=Rat.intCast_lt_intCast.2 (show bigR (pthX A)<1048576 by omega)
  rw[hs,Rat.div_def]
  grind
 have s0:=mx.1
 have W0:=mk.1
 have t0:=rpw_nn s0 (c+1)
 obtain⟨v,hv,v0⟩:∃v:Rat,v*(1-s)=W*rpw s (c+1)∧0≤v:=by
  have hp:0<(1-s)⁻¹:=Rat.inv_pos.2 (by grind)
  have hm:(1-s)*(1-s)⁻¹=1:=Rat.mul_inv_cancel _ (by grind)
  have nn:=Rat.mul_nonneg W0 t0
  refine⟨W*rpw s (c+1)*(1-s)⁻¹,?_,Rat.mul_nonneg nn (by grind)⟩
  generalize (1-s)⁻¹=i at *
  grind
 have mD:=mt.quo (z:=fun n=>(stC (admN P n 0) (admN P n 1)+stC (admN P n 1) (admN P n 2)*(faN P p n*faN P p n))*(Cq.one+stC (admN P n 0) (admN P n 1)*(stC (admN P n 1) (admN P n 2)*(faN P p n*faN P p n))).inv-(stC (admN P n 0) (admN P n 1)+(Cq.one-stC (admN P n 0) (admN P n 1)*stC (admN P n 0) (admN P n 1))*(stC (admN P n 1) (admN P n 2)*(faN P p n*faN P p n))*smC (stC (admN P n 0) (admN P n 1)*(stC (admN P n 1) (admN P n 2)*(faN P p n*faN P p n))) c)) mx s1 hv v0 (hE.mono fun n k=>rest_is _ _ _ _ _ _ rfl rfl (smC_is _ c) k)
 have hE0:1048576*v≤(pthE A c:Rat):=by
  have hpos:0<1048576-bigR (pthX A):=by omega
  have up:=Rat.intCast_le_intCast.2 (up_ge (a:=bigR (pthK A c)*powQ (bigR (pthX A)) (c+1)) hpos)
  have e:pthE A c=(bigR (pthK A c)*powQ (bigR (pthX A)) (c+1)+(1048576-bigR (pthX A))-1)/(1048576-bigR (pthX A)):=rfl
  rw[← e]at up
  push_cast at up
  have wn:(0:Rat)≤(bigR (pthK A c):Rat):=by exact_mod_cast hw0
  have m1:=Rat.mul_le_mul_of_nonneg_left pq wn
  have eW:(bigR (pthK A c):Rat)=1048576*W:=by rw[hW,Rat.div_def];grind
  have es:(bigR (pthX A):Rat)=1048576*s:=by rw[hs,Rat.div_def];grind
  have pos:(0:Rat)<1-s:=by grind
  refine rle_of_mul pos ?_
  generalize (powQ (bigR (pthX A)) (c+1):Rat)=Q at *
  generalize (pthE A c:Rat)=E at *
  rw[eW,es]at up
  rw[eW]at m1
  generalize rpw s (c+1)=T at *
  grind
 refine⟨p,hp,aq,?_,sy.2,sn.2,hE⟩
 exact in_more io mD hE0 (by omega)
theorem paths_below {A:Ask} (a:AskOk A) (hl:A.ls.length=1) (c:Nat) (hq:(pthM A c).q=0) (hb:(belT A).t.q=0):Close (belT A).r (pthM A c):=by
 obtain⟨ps,hp⟩:=lays_ex a.ls
 have P:=ptA_ok a hp
 obtain⟨p,e,ha,ip,n1,n2,n3⟩:=in_paths P hl c hq
 obtain⟨y0,y0q⟩:=admY_zero ha (show 0<3 by omega)
 obtain⟨y1,y1q⟩:=admY_zero ha (show 1<3 by omega)
 obtain⟨y2,y2q⟩:=admY_zero ha (show 2<3 by omega)
 have i0:=in_admN P (show 0≤A.ls.length+1 by omega) y0q
 have i1:=in_admN P (show 1≤A.ls.length+1 by omega) y1q
 have i2:=in_admN P (show 2≤A.ls.length+1 by omega) y2q
 obtain⟨p',h1,h2⟩:=lays_at P.ls (show 0<A.ls.length by omega)
 rw[e]at h1
 obtain rfl:p=p':=by simpa using h1
 have hA0:A.med 1=A.ls[0]:=med_at (show 0<A.ls.length by omega)
 rw[hA0]at i1 y1 y1q
 refine In.meet ?_ ip
 unfold belT at hb ⊢
 rw[hl]at hb ⊢
 unfold belG at hb ⊢
 by_cases c0:(belS A).t.q=0
 case neg=>rw[if_neg c0]at hb;exact absurd hb c0
 rw[if_pos c0]at hb ⊢
 unfold belG at hb ⊢
 rw[y0,y1,hA0]at hb ⊢
 refine(in_bel P.i P.ix P.w h2 i0 i1 (fun q => ?_) hb).1.r
 unfold belS at q ⊢
 dsimp only at q ⊢
 rw[hl]at q ⊢
 rw[y1,y2]at q ⊢
 obtain⟨b1,q1,e1⟩:=after_val q
 obtain⟨_,is,nz⟩:=in_stp i1 i2 b1
 rw[e1]
 exact⟨is,in_pl in_one is q1⟩
theorem paths_amp {A:Ask} (a:AskOk A) (hl:A.ls.length=1) (c:Nat) (hq:(pthM A c).q=0) (q:(ampR A false).q=0):Close (ampR A false) (pthM A c):=by
 obtain⟨ps,hp⟩:=lays_ex a.ls
 have P:=ptA_ok a hp
 obtain⟨p,e,ha,ip,n1,n2,n3⟩:=in_paths P hl c hq
 have i:=in_amp P q
 have nzy:=i.2.1 p (by rw[e];exact List.mem_singleton.2 rfl)
 refine In.meet i.1 (ip.congr ?_)
 refine(((n1.and n2).and n3).and nzy).mono fun n ⟨⟨⟨k1,k2⟩,k3⟩,k4⟩ => ?_
 have ey:admN (ptA A ps) n 1=adN (ptA A ps) p n:=by unfold admN;rw[if_neg (by omega),e];rfl
 have el:admN (ptA A ps) n 2=adN (ptA A ps) (backP (ptA A ps)) n:=by unfold admN;rw[if_neg (by omega),e];rfl
 rw[ey,el]at k1 k3 ⊢
 rw[ey]at k2
 have u:=(Und.base (y:=adN (ptA A ps) p n) (l:=adN (ptA A ps) (backP (ptA A ps)) n) k1).more (f:=faN (ptA A ps) p n) k4 k2 k3
 have r:=u.r
 rw[r]
 unfold ampN ampC
 have er:thrN (ptA A ps) n=(prodC (lowC (ptA A ps) n 0),facC (lowC (ptA A ps) n 0)):=by
  unfold thrN
  rw[run_is]
  show(mulC oneM _,_)=_
  rw[one_mul4,Cq.one_mul]
  rfl
 have el0:lowC (ptA A ps) n 0 = [(adN (ptA A ps) p n,faN (ptA A ps) p n)]:=by unfold lowC;rw[e];rfl
 rw[er,el0]
 rfl
end Go.Proofs.YticobgianbecpaaGreatDoor
