/- The ball of all paths: the program's walk. -/
import Derived.Test.YticobgianbecpaaGreatDoorKBw
import Derived.Deep.RegionHeld3
namespace Go.Proofs.YticobgianbecpaaGreatDoor
open Go Go.Sort Go.RowKit
def pM (K O:Res) (sx sk:Int) (c:Nat):Res :=
 if ¬K.q=0 then .bad K.q
 else if 1048576≤sx then .bad 24
 else if ¬O.q=0 then .bad O.q
 else if 67108864<O.c+up (sk*powQ sx (c+1)) (1048576-sx)then .bad 8
 else .good O.a O.b (O.c+up (sk*powQ sx (c+1)) (1048576-sx))
theorem pM_brk {K O:Res}{sx sk:Int}{c:Nat} (hK:K.q=0) (hx:1048576≤sx):pM K O sx sk c = .bad 24:=by unfold pM;rw[if_neg (fun h=>h hK),if_pos hx]
theorem pM_bad {K O:Res}{sx sk:Int}{c:Nat} (hO:¬O.q=0) (hx:K.q=0→¬1048576≤sx) (hk:¬K.q=0→O.q=K.q):pM K O sx sk c = .bad O.q:=by
 unfold pM
 by_cases h:K.q=0
 ·rw[if_neg (fun k=>k h),if_neg (hx h),if_pos hO]
 ·rw[if_pos h,hk h]
theorem pM_big {K O:Res}{sx sk:Int}{c:Nat} (hK:K.q=0) (hx:¬1048576≤sx) (hO:O.q=0) (h:67108864<O.c+up (sk*powQ sx (c+1)) (1048576-sx)):pM K O sx sk c = .bad 8:=by
 unfold pM;rw[if_neg (fun k=>k hK),if_neg hx,if_neg (fun k=>k hO),if_pos h]
theorem pM_ok {K O:Res}{sx sk:Int}{c:Nat} (hK:K.q=0) (hx:¬1048576≤sx) (hO:O.q=0) (h:¬67108864<O.c+up (sk*powQ sx (c+1)) (1048576-sx)):pM K O sx sk c = .good O.a O.b (O.c+up (sk*powQ sx (c+1)) (1048576-sx)):=by
 unfold pM;rw[if_neg (fun k=>k hK),if_neg hx,if_neg (fun k=>k hO),if_neg h]
theorem bad_at {T:Res}{e:Int} (h:T = .bad e):fl T.a=0∧fl T.b=0∧T.c=0∧T.q=e:=by
 subst h
 obtain⟨h1,h2,h3,h4⟩:=quad_bad e
 rw[h1,h2,h3,h4,fl_zero]
 exact⟨rfl,rfl,rfl,rfl⟩
theorem good_at {T:Res}{x y r:Int} (h:T = .good x y r):fl T.a=fl x∧fl T.b=fl y∧T.c=r∧T.q=0:=by
 subst h
 obtain⟨h1,h2,h3,h4⟩:=quad_good x y r
 rw[h1,h2,h3,h4]
 exact⟨rfl,rfl,rfl,rfl⟩
theorem path_is {A:Ask}{c:Nat}{N V G Z X a b K d O:Res}{p:Pth} (hN:Is N (stpR (admE A 3) (admY A 0) (admY A 1))) (hV:Is V (stpR N.q (admY A 1) (admY A 2))) (hG:Is G (facR V.q A (A.med 1) 2)) (hZ:Is Z (after G.q (ti V G))) (hX:Is X (after Z.q (ti N Z)))
  (hp:pthAt X c=p) (ha:Is a (after p.q (ti N N))) (hb:Is b (after a.q (mi oneR a))) (hK:Is K (after b.q (ti b Z))) (hd:Is d (after K.q (ti K p.s))) (hO:Is O (after d.q (pl N d))):pthM A c=pM K O (bigR X) (bigR K) c:=by
 have e1:pthN A=N:=by unfold pthN;exact hN.out.symm
 have e2:pthY A=V:=by unfold pthY;rw[e1];exact hV.out.symm
 have e3:pthG A=G:=by unfold pthG;rw[e2];exact hG.out.symm
 have e4:pthZ A=Z:=by unfold pthZ;rw[e2,e3];exact hZ.out.symm
 have e5:pthX A=X:=by unfold pthX;rw[e4,e1];exact hX.out.symm
 have e6:pthK A c=K:=by
  unfold pthK
  dsimp only
  rw[e5,e1,e4,hp,← ha.out,← hb.out]
  exact hK.out.symm
 have e7:pthO A c=O:=by
  unfold pthO
  dsimp only
  rw[e6,e5,e1,hp,← hd.out]
  exact hO.out.symm
 have e8:pthE A c=up (bigR K*powQ (bigR X) (c+1)) (1048576-bigR X):=by unfold pthE up;rw[e5,e6]
 unfold pthM pM
 rw[e5,e6,e7,e8]
theorem fine_pth {X:Res} : ∀k,Fine (pthAt X k).s∧Fine (pthAt X k).t
 | 0=>⟨fine_oneR,fine_oneR⟩
 | k+1=>by unfold pthAt pthStep;exact⟨fine_after _ (fine_pl _ _),fine_after _ (fine_mi _ _)⟩
theorem step_is {X s t m t' s':Res}{q:Int}{k:Nat} (h:pthAt X k=⟨s,t,q⟩) (hm:Is m (after q (ti t X))) (ht:Is t' (after m.q (mi noneR m))) (hs:Is s' (after t'.q (pl s t'))):pthAt X (k+1)=⟨s',t',s'.q⟩:=by
 cases hm;cases ht;cases hs
 unfold pthAt
 rw[h]
 unfold pthStep
 rfl
def HidP (X:Res) (k:Nat) (p:Pth):Prop:=pthAt X k=p
theorem powQ_up (s:Int) (k:Nat):powQ s (k+1)=up (powQ s k*s) 1048576:=by
 unfold up
 show(powQ s k*s+1048575)/1048576=_
 congr 1
 omega
theorem powQ_bd {s:Int} (h0:0≤s) (h1:s<1048576):∀k,0≤powQ s k∧powQ s k≤1048576
 | 0=>⟨show(0:Int)≤1048576 by decide,show(1048576:Int)≤1048576 by decide⟩
 | k+1=>by
  obtain⟨a,b⟩:=powQ_bd h0 h1 k
  have m0:=Int.mul_nonneg a h0
  have m1:powQ s k*s≤1048576*1048575:=Int.mul_le_mul b (by omega) h0 (by decide)
  show 0≤(powQ s k*s+1048575)/1048576∧(powQ s k*s+1048575)/1048576≤1048576
  generalize powQ s k*s=x at *
  omega
theorem bigR_bd {R:Res} (h:Fine R):0≤bigR R∧bigR R≤2147483648:=by
 obtain⟨sx,sy⟩:=h.right.sh
 have r:=h.right.2
 have sq:=sx.sq sy
 have u0:=rtu_bd sq.1 (by omega)
 have hb:bigR R=rtu (R.a*R.a+R.b*R.b)+R.c:=by unfold bigR;rfl
 rw[hb]
 generalize rtu (R.a*R.a+R.b*R.b)=x at *
 omega
theorem pow_wrap {s:Int} (h0:0≤s) (h1:s<1048576) (k:Nat):wrap64 (powQ s k*s)=powQ s k*s∧IntKind.i64.wrap (powQ s k*s)=powQ s k*s∧0≤powQ s k*s∧powQ s k*s≤4611686018427387904:=by
 obtain⟨a,b⟩:=powQ_bd h0 h1 k
 have m0:=Int.mul_nonneg a h0
 have m1:powQ s k*s≤1048576*1048575:=Int.mul_le_mul b (by omega) h0 (by decide)
 generalize powQ s k*s=x at *
 exact⟨IntWalk.wrap64_in _ ⟨by omega,by omega⟩,IntWalk.i64_in _ ⟨by omega,by omega⟩,m0,by omega⟩
theorem end_wrap {s w:Int} (h0:0≤s) (h1:s<1048576) (w0:0≤w) (w1:w≤2147483648) (k:Nat):wrap64 (w*powQ s k)=w*powQ s k∧IntKind.i64.wrap (w*powQ s k)=w*powQ s k∧0≤w*powQ s k∧w*powQ s k≤2251799813685248:=by
 obtain⟨a,b⟩:=powQ_bd h0 h1 k
 have m0:=Int.mul_nonneg w0 a
 have m1:w*powQ s k≤2147483648*1048576:=Int.mul_le_mul w1 b a (by decide)
 generalize w*powQ s k=x at *
 exact⟨IntWalk.wrap64_in _ ⟨by omega,by omega⟩,IntWalk.i64_in _ ⟨by omega,by omega⟩,m0,by omega⟩
theorem up_bd {x d:Int} (h0:0≤x) (h1:x≤2251799813685248) (d0:1≤d):0≤up x d∧up x d≤2251799813685248:=by
 unfold up
 refine⟨Int.ediv_nonneg (by omega) (by omega),?_⟩
 have:x+d-1<(2251799813685248+1)*d:=by
  have m:2251799813685248*1≤2251799813685248*d:=Int.mul_le_mul_of_nonneg_left d0 (by decide)
  omega
 have:=Int.ediv_lt_of_lt_mul (by omega) this
 omega
theorem sum_wrap {a x:Int} (h0:0≤a) (h1:a≤67108864) (k0:0≤x) (k1:x≤2251799813685248):wrap64 (a+x)=a+x∧IntKind.i64.wrap (a+x)=a+x:=⟨IntWalk.wrap64_in _ ⟨by omega,by omega⟩,IntWalk.i64_in _ ⟨by omega,by omega⟩⟩
theorem up_bel (n d:Int) (w:World) (h0:0≤n) (h1:n≤4611686018427387904) (h2:1≤d) (h3:d≤1000000000000000000) :
  Calls Tryz.prog 44 #[.int .i64 n,.int .i64 d] w fun e w'=>e = .returned (.int .i64 (up n d))∧Below w.heap.size w w' :=
 (sup_any n d w h0 h1 h2 h3).mono fun e w' h=>⟨h.1,by rw[h.2];exact Below.refl _ _⟩
theorem lt_cast {j k:Nat} (h:j<k+1):(j:Int)<k+1:=by omega
theorem no_lt1 (k:Nat):¬((k+1:Nat):Int)<k+1:=by omega
theorem no_lt2 (k:Nat):¬(k:Int)+1<k+1:=by omega
theorem meas_lt2 {j k:Nat} (h:j<k+1):k-j<k+1-j:=by omega
theorem meas_lt {k c:Nat} (h:k<c):c-(k+1)<c-k:=by omega
theorem cw {k c:Nat} (h:k≤c) (hc:c≤60):wrap64 ((k:Int)+1)=k+1∧IntKind.i64.wrap ((k:Int)+1)=k+1:=⟨IntWalk.wrap64_in _ ⟨by omega,by omega⟩,IntWalk.i64_in _ ⟨by omega,by omega⟩⟩
set_option maxRecDepth 100000 in
set_option maxHeartbeats 64000000 in
theorem Paths_good (A:Ask) (hA:AskOk A) (hl:A.ls.length=1) (c:Nat) (hc:c≤60) (T:Res) (hT:pthM A c=T) (u:World) (hr:Row A.pa A.ls u) (hpa:∀a,A.pa=some a→a.block<u.heap.size) :
  Calls Tryz.prog 22 #[A.val,.int .i64 c] u fun e w'=>e = .returned (.tuple #[.agg #[.complex .f64 (fl T.a) (fl T.b),.int .i64 T.c],.int .i64 T.q])∧Below u.heap.size u w':=by
 have OP:=fun w hr hpa=>open_any A hA w hr hpa
 have AM:=fun B w L=>admittances_any B A hA w L
 rw[hl]at AM
 have WI:=Lib.hid (fun w=>swithin_is c 0 60 true w (inR_yes.2 ⟨by omega,by omega⟩))
 have hb0:A.ls[0]?=some (A.med 1):=by rw[med_at (show 0<A.ls.length by omega)];exact List.getElem?_eq_getElem (by omega)
 have fy0:=fine_admY A 0
 have fy1:=fine_admY A 1
 have fy2:=fine_admY A 2
 obtain⟨N,hN⟩:=is_ex (stpR (admE A 3) (admY A 0) (admY A 1))
 have fN:Fine N:=hN.fine (fine_stp _ _ _)
 obtain⟨V,hV⟩:=is_ex (stpR N.q (admY A 1) (admY A 2))
 have fV:Fine V:=hV.fine (fine_stp _ _ _)
 obtain⟨G,hG⟩:=is_ex (facR V.q A (A.med 1) 2)
 have fG:Fine G:=hG.fine (fine_fac _ _ _ _)
 obtain⟨Z,hZ⟩:=is_ex (after G.q (ti V G))
 have fZ:Fine Z:=hZ.fine (fine_after _ (fine_ti _ _))
 obtain⟨X,hX⟩:=is_ex (after Z.q (ti N Z))
 have fX:Fine X:=hX.fine (fine_after _ (fine_ti _ _))
 obtain⟨p,hp⟩:∃p,pthAt X c=p:=⟨_,rfl⟩
 have fp:=fine_pth (X:=X) c
 rw[hp]at fp
 obtain⟨a,ha⟩:=is_ex (after p.q (ti N N))
 have fa:Fine a:=ha.fine (fine_after _ (fine_ti _ _))
 obtain⟨b,hb⟩:=is_ex (after a.q (mi oneR a))
 have fb:Fine b:=hb.fine (fine_after _ (fine_mi _ _))
 obtain⟨K,hK⟩:=is_ex (after b.q (ti b Z))
 have fK:Fine K:=hK.fine (fine_after _ (fine_ti _ _))
 obtain⟨d,hd⟩:=is_ex (after K.q (ti K p.s))
 have fd:Fine d:=hd.fine (fine_after _ (fine_ti _ _))
 obtain⟨O,hO⟩:=is_ex (after d.q (pl N d))
 have fO:Fine O:=hO.fine (fine_after _ (fine_pl _ _))
 have Od:¬K.q=0→O.q=K.q:=fun h=>by
  have h1:d.q=K.q:=by rw[hd.out];unfold after;rw[if_neg h];exact(quad_bad _).2.2.2
  rw[hO.out];unfold after;rw[if_neg (by rw[h1];exact h),(quad_bad _).2.2.2,h1]
 have HT:pM K O (bigR X) (bigR K) c=T:=by rw[← hT];exact(path_is hN hV hG hZ hX hp ha hb hK hd hO).symm
 have sx:=bigR_bd fX
 have sk:=bigR_bd fK
 have HP0:=Lib.hid (show HidP X c p from hp)
 have CN:=fun B=>Lib.hid ((step_any B (admE A 3) A _ _ fy0 fy1).to hN)
 have CV:=fun B=>Lib.hid ((step_any B N.q A _ _ fy1 fy2).to hV)
 have CG:=fun B=>Lib.hid ((factor_any B V.q A 1 (A.med 1) 0 2 hA hb0 rfl (.inr rfl)).to hG)
 have CZ:=fun B=>Lib.hid ((c_times B G.q V G fV fG).to hZ)
 have CX:=fun B=>Lib.hid ((c_times B Z.q N Z fN fZ).to hX)
 have Ca:=fun B=>Lib.hid ((c_times B p.q N N fN fN).to ha)
 have Cb:=fun B=>Lib.hid ((c_minus B a.q oneR a fine_oneR fa).to hb)
 have CK:=fun B=>Lib.hid ((c_times B b.q b Z fb fZ).to hK)
 have Cd:=fun B=>Lib.hid ((c_times B K.q K p.s fK fp.1).to hd)
 have CO:=fun B=>Lib.hid ((c_plus B d.q N d fN fd).to hO)
 have S1:=fun B w L=>sizeOf_any B K.q A X fX w L
 have S2:=fun B w L=>sizeOf_any B K.q A K fK w L
 unfold Ask.val at OP ⊢
 have OP:=Lib.hid OP
 have AM:=Lib.hid AM
 have CN:=Lib.hid CN
 have CV:=Lib.hid CV
 have CG:=Lib.hid CG
 have CZ:=Lib.hid CZ
 have CX:=Lib.hid CX
 have Ca:=Lib.hid Ca
 have Cb:=Lib.hid Cb
 have CK:=Lib.hid CK
 have Cd:=Lib.hid Cd
 have CO:=Lib.hid CO
 have HR:=Lib.hid hr
 have HP:=Lib.hid hpa
 have HT:=Lib.hid HT
 have Od:=Lib.hid Od
 obtain⟨ta,hta⟩:∃v,fl T.a=v:=⟨_,rfl⟩
 obtain⟨tb,htb⟩:∃v,fl T.b=v:=⟨_,rfl⟩
 obtain⟨tc,htc⟩:∃v,T.c=v:=⟨_,rfl⟩
 obtain⟨tq,htq⟩:∃v,T.q=v:=⟨_,rfl⟩
 rw[hta,htb,htc,htq]
 have HV:=Lib.hid (show fl T.a=ta∧fl T.b=tb∧T.c=tc∧T.q=tq from⟨hta,htb,htc,htq⟩)
 clear hta htb htc htq
 obtain⟨vx,hvx⟩:∃v,sizQ K.q X=v:=⟨_,rfl⟩
 obtain⟨vk,hvk⟩:∃v,sizQ K.q K=v:=⟨_,rfl⟩
 have VX:=Lib.hid (And.intro hvx hvk)
 rw[hvx]at S1
 rw[hvk]at S2
 have S1:=Lib.hid S1
 have S2:=Lib.hid S2
 clear hvx hvk
 have FX:=Lib.hid fX
 have hO0:=fO.right.2
 have e3:admE A 3=(admE A 3):=rfl
 have hne:((A.ls.length:Int) != 1)=false:=by rw[hl];decide
 clear hl hr hpa hA hT hN hV hG hZ hX hp ha hb hK hd hO fy0 fy1 fy2 fN fV fG fZ fX fa fb fK fd fp hb0 e3
 generalize admE A 3=q3 at *
 have y0:∀ {g:Nat}{w:World},RowB (some ⟨g,0,none⟩) (admL A 3) w→(w.cell? ⟨g,0,none⟩=some (.complex .f64 (fl (admY A 0).a) (fl (admY A 0).b))∧w.cell? ⟨g,1,none⟩=some (.int .i64 (admY A 0).c))∧(w.cell? ⟨g,2,none⟩=some (.complex .f64 (fl (admY A 1).a) (fl (admY A 1).b))∧w.cell? ⟨g,3,none⟩=some (.int .i64 (admY A 1).c))∧(w.cell? ⟨g,4,none⟩=some (.complex .f64 (fl (admY A 2).a) (fl (admY A 2).b))∧w.cell? ⟨g,5,none⟩=some (.int .i64 (admY A 2).c))∧g<w.heap.size:=fun h=>by
  obtain⟨a1,a2,a3⟩:=h.at (admL_at A (show 0<3 by decide))
  obtain⟨b1,b2,_⟩:=h.at (admL_at A (show 1<3 by decide))
  obtain⟨c1,c2,_⟩:=h.at (admL_at A (show 2<3 by decide))
  exact⟨⟨a1,a2⟩,⟨b1,b2⟩,⟨c1,c2⟩,a3⟩
 have y0:=Lib.hid (fun g w h => @y0 g w h)
 generalize admY A 0=Y0 at *
 generalize admY A 1=Y1 at *
 generalize admY A 2=Y2 at *
 go_enter Tryz.func22,Tryz.ntmps22
 go_wp2_with fail
 refine(OP.out _ (HR.out.bel blw) (fun a h=>by have:=HP.out a h;simp;omega)).mono ?_
 rintro e w ⟨B,hB,rfl,Bo,Fl⟩
 simp at hB
 clear OP HR HP
 have J9:=Fl.size
 simp at J9
 have Fm:=blc Fl u.heap.size
 have Bz:=blc Fl (u.heap.size+1)
 have E6:=blf Fl (u.heap.size+1)
 have Ja:u.heap.size<w.heap.size:=by omega
 have Iu:u.heap.size+1<w.heap.size:=by omega
 have FIN:=Lib.hid (fun s w' (t:Trn B s w w')=>Below.trans (show Below u.heap.size u w from blw) (t.below (show u.heap.size≤B by omega) (show u.heap.size≤w.heap.size by omega)))
 have a6:w.cell? ⟨u.heap.size,6,none⟩=some (.slice A.pa A.ls.length A.cap):=(Fm 6).trans (by go_simp)
 have J0:w.cell? ⟨u.heap.size+1,0,none⟩=some (.complex .f64 0 0):=(Bz 0).trans (by go_simp)
 have J1:w.cell? ⟨u.heap.size+1,1,none⟩=some (.int .i64 0):=(Bz 1).trans (by go_simp)
 have J2:∀o,w.frozen? ⟨u.heap.size+1,o,none⟩=false:=fun o=>(E6 o).trans (by go_simp)
 clear Bz E6
 clear Fm Fl
 have hnu1:¬u.heap.size+1=B:=by omega
 have hzB:B<w.heap.size:=Bo.st.lt
 have Be:=Bo.st
 have Kg:=tr_refl Be
 obtain⟨Jn,Jo,Jp,Jq,Jr,Js,Jt,Ju,Jv⟩:=Bo.cells
 have Ki:=Be.cell
 have Kj:=Be.free
 have Kw:=Be.lt
 have Kv:=own5 Kw
 go_wp2_with fail
 refine(WI.out _).mono ?_
 rintro e w2 ⟨rfl,hw2'⟩
 rw[hw2'];clear hw2' w2
 go_wp2_with fail
 refine(AM.out B _ Bo).mono ?_
 rintro e w1 ⟨g,gc,rfl,hg,hrow,Fo⟩
 have Im:=Fo.size_le
 (try simp at Im)
 have Fp:=tn5 Fo (u.heap.size+1)
 obtain⟨H5,K2,K9,Kk,Jh,Jb⟩:=pkx Bo Kg kpw Fo
 (try clear Ki Kj Jn Jo Jp Jq Jr Js Jt Ju Jv Kv)
 obtain⟨⟨y0a,y0b⟩,⟨y1a,y1b⟩,⟨y2a,y2b⟩,hgz⟩:=y0.out _ _ hrow
 have hng:¬g=B:=by omega
 have hng2:¬g=u.heap.size+1:=by omega
 have hng3:¬u.heap.size+1=g:=by omega
 clear hrow AM y0 a6 WI
 go_wp2_with fail
 refine turn_new (fun i=>i==7) 8 #[.complex .f64 0 0,.int .i64 0] 57 _ rfl (by kernel_rfl) (by kernel_rfl) (by first|omega|(simp;omega)) (St.cell (St.turn Be (Trn.kp H5 kpw))) (fun a w=>by kernel_rfl) fun hG => ?_
 have A2:=fun o=>hG (u.heap.size+1) lto o (ne_addr (by omega))
 have Fn:=fun o=>hG (g) lto o (ne_addr (by omega))
 have A1:=fun o=>hG B lto (o+1) ne_off
 clear hG
 simp only[List.take_succ_cons,List.take_zero,List.drop_succ_cons,List.drop_zero]
 repeat (first|(refine wpTurn_pure rfl (fun K hK => ?_);go_simp;first|(refine hK _ _ ?_;clear hK K)|(apply Exists.intro;refine⟨fun _ _ => ?_,hK _ _ ?_⟩;(first|fail);clear hK K))|(refine wpTurn_eff rfl (fun K hK => ?_);go_simp;(first|(with_reducible refine⟨_,_,fun _=>tur_lt (Lt.turn Bo (Trn.kp H5 kpw)) (fun w h=>(CN.out B).out w h),?_⟩));refine hK _ _ ?_;clear hK K))
 refine wpTurn_nil ?_
 intro B1 w2 hN
 obtain⟨F9,A0,Du,F7,F8⟩:=hN
 (try simp at A0)
 clear A1 A2 Fn
 have In:=F9.size_le
 (try simp at In)
 have Bf:=tn5 F9 (u.heap.size+1)
 have J3:=tn5 F9 (g)
 obtain⟨H6,K3,Ka,Kl,Ji,Jc⟩:=pkx Bo H5 kpw F9
 (try clear Jb Jh)
 have B6:¬B1=u.heap.size+1:=by first|omega|(simp at A0;omega)
 have B4:¬u.heap.size+1=B1:=by first|omega|(simp at A0;omega)
 have Ik:¬B1=g:=by first|omega|(simp at A0;omega)
 have Ii:¬g=B1:=by first|omega|(simp at A0;omega)
 have B5:¬B1=B:=by first|omega|(simp at A0;omega)
 have B0:¬B=B1:=by first|omega|(simp at A0;omega)
 replace Bf:=cas5 Bf [.complex .f64 0 0,.int .i64 0]
 simp only[CAf,Nat.reduceAdd,and_true]at Bf
 (try clear Fp)
 go_wp2_with fail
 refine turn_new (fun i=>i==7) 8 #[.complex .f64 0 0,.int .i64 0] 57 _ rfl (by kernel_rfl) (by kernel_rfl) (by first|omega|(simp;omega)) (St.cell (St.turn Be (Trn.kp H6 kpw))) (fun a w=>by kernel_rfl) fun hG => ?_
 have A2:=fun o=>hG (u.heap.size+1) lto o (ne_addr (by omega))
 have Fn:=fun o=>hG (g) lto o (ne_addr (by omega))
 have Bb:=fun o=>hG (B1) lto o (ne_addr (by omega))
 have A1:=fun o=>hG B lto (o+1) ne_off
 clear hG
 simp only[List.take_succ_cons,List.take_zero,List.drop_succ_cons,List.drop_zero]
 repeat (first|(refine wpTurn_pure rfl (fun K hK => ?_);go_simp;first|(refine hK _ _ ?_;clear hK K)|(apply Exists.intro;refine⟨fun _ _ => ?_,hK _ _ ?_⟩;(first|fail);clear hK K))|(refine wpTurn_eff rfl (fun K hK => ?_);go_simp;(first|(with_reducible refine⟨_,_,fun _=>tur_lt (Lt.turn Bo (Trn.kp H6 kpw)) (fun w h=>(CV.out B).out w h),?_⟩));refine hK _ _ ?_;clear hK K))
 refine wpTurn_nil ?_
 intro B2 w3 hN
 obtain⟨E7,Aq,J7,Jy,K0⟩:=hN
 (try simp at Aq)
 clear A1 A2 Fn Bb
 have Io:=E7.size_le
 (try simp at Io)
 have Bg:=tn5 E7 (u.heap.size+1)
 have J4:=tn5 E7 (g)
 have Bh:=tn5 E7 (B1)
 obtain⟨Gk,K4,Kb,Km,Jj,Jd⟩:=pkx Bo H6 kpw E7
 (try clear Jc Ji)
 have Hw:¬B2=u.heap.size+1:=by first|omega|(simp at Aq;omega)
 have Hn:¬u.heap.size+1=B2:=by first|omega|(simp at Aq;omega)
 have Il:¬B2=g:=by first|omega|(simp at Aq;omega)
 have Ij:¬g=B2:=by first|omega|(simp at Aq;omega)
 have Hx:¬B2=B1:=by first|omega|(simp at Aq;omega)
 have Ho:¬B1=B2:=by first|omega|(simp at Aq;omega)
 have Hv:¬B2=B:=by first|omega|(simp at Aq;omega)
 have Hm:¬B=B2:=by first|omega|(simp at Aq;omega)
 replace Bg:=cas5 Bg [.complex .f64 0 0,.int .i64 0]
 replace Bh:=cas5 Bh [.complex .f64 (fl N.a) (fl N.b),.int .i64 N.c]
 simp only[CAf,Nat.reduceAdd,and_true]at Bg Bh
 (try clear Bf)
 go_wp2_with fail
 refine turn (fun i=>i==5||i==6) 7 (by kernel_rfl) (by kernel_rfl) (St.cell (St.turn Be (Trn.kp Gk kpw))) fun hG => ?_
 have A2:=fun o=>hG (u.heap.size+1) lto o (ne_addr (by omega))
 have Bb:=fun o=>hG (B1) lto o (ne_addr (by omega))
 have Eg:=fun o=>hG (B2) lto o (ne_addr (by omega))
 have A1:=fun o=>hG B lto (o+1) ne_off
 clear hG
 simp only[List.take_succ_cons,List.take_zero,List.drop_succ_cons,List.drop_zero]
 repeat (first|(refine wpTurn_pure rfl (fun K hK => ?_);go_simp;first|(refine hK _ _ ?_;clear hK K)|(apply Exists.intro;refine⟨fun _ _ => ?_,hK _ _ ?_⟩;(first|fail);clear hK K))|(refine wpTurn_eff rfl (fun K hK => ?_);go_simp;(first|(first|with_reducible refine⟨_,_,fun _=>tur_lt (Lt.turn Bo (Trn.kp Gk kpw)) (fun w h=>(CG.out B).out w h),?_⟩|with_reducible refine⟨_,_,fun _=>tur_st (St.turn Be (Trn.kp Gk kpw)) (fun w h=>(CZ.out B).out w h),?_⟩));refine hK _ _ ?_;clear hK K))
 refine wpTurn_nil ?_
 intro w4 E8
 clear A1 A2 Bb Eg
 have Ip:=E8.size_le
 (try simp at Ip)
 have Bi:=tn5 E8 (u.heap.size+1)
 have Bj:=tn5 E8 (B1)
 have Bk:=tn5 E8 (B2)
 obtain⟨H7,K5,Kc,Kn,Jk,Je⟩:=pkx Bo Gk kpw E8
 (try clear Jd Jj)
 replace Bi:=cas5 Bi [.complex .f64 0 0,.int .i64 0]
 replace Bj:=cas5 Bj [.complex .f64 (fl N.a) (fl N.b),.int .i64 N.c]
 replace Bk:=cas5 Bk [.complex .f64 (fl V.a) (fl V.b),.int .i64 V.c]
 simp only[CAf,Nat.reduceAdd,and_true]at Bi Bj Bk
 (try clear Bg Bh)
 go_wp2_with fail
 refine turn_new (fun i=>i==5) 6 #[.complex .f64 0 0,.int .i64 0] 57 _ rfl (by kernel_rfl) (by kernel_rfl) (by first|omega|(simp;omega)) (St.cell (St.turn Be (Trn.kp H7 kpw))) (fun a w=>by kernel_rfl) fun hG => ?_
 have A2:=fun o=>hG (u.heap.size+1) lto o (ne_addr (by omega))
 have Bb:=fun o=>hG (B1) lto o (ne_addr (by omega))
 have Eg:=fun o=>hG (B2) lto o (ne_addr (by omega))
 have A1:=fun o=>hG B lto (o+1) ne_off
 clear hG
 simp only[List.take_succ_cons,List.take_zero,List.drop_succ_cons,List.drop_zero]
 repeat (first|(refine wpTurn_pure rfl (fun K hK => ?_);go_simp;first|(refine hK _ _ ?_;clear hK K)|(apply Exists.intro;refine⟨fun _ _ => ?_,hK _ _ ?_⟩;(first|fail);clear hK K))|(refine wpTurn_eff rfl (fun K hK => ?_);go_simp;(first|(with_reducible refine⟨_,_,fun _=>tur_st (St.turn Be (Trn.kp H7 kpw)) (fun w h=>(CX.out B).out w h),?_⟩));refine hK _ _ ?_;clear hK K))
 refine wpTurn_nil ?_
 intro B3 w5 hN
 obtain⟨E9,Ar,J8,Jz,K1⟩:=hN
 (try simp at Ar)
 clear A1 A2 Bb Eg
 have Iq:=E9.size_le
 (try simp at Iq)
 have Bl:=tn5 E9 (u.heap.size+1)
 have Bm:=tn5 E9 (B1)
 have Bn:=tn5 E9 (B2)
 obtain⟨J5,K6,Kd,Ko,Jl,Jf⟩:=pkx Bo H7 kpw E9
 (try clear Je Jk)
 have Hz:¬B3=u.heap.size+1:=by first|omega|(simp at Ar;omega)
 have Hq:¬u.heap.size+1=B3:=by first|omega|(simp at Ar;omega)
 have I0:¬B3=B1:=by first|omega|(simp at Ar;omega)
 have Hr:¬B1=B3:=by first|omega|(simp at Ar;omega)
 have I1:¬B3=B2:=by first|omega|(simp at Ar;omega)
 have Hs:¬B2=B3:=by first|omega|(simp at Ar;omega)
 have Hy:¬B3=B:=by first|omega|(simp at Ar;omega)
 have Hp:¬B=B3:=by first|omega|(simp at Ar;omega)
 replace Bl:=cas5 Bl [.complex .f64 0 0,.int .i64 0]
 replace Bm:=cas5 Bm [.complex .f64 (fl N.a) (fl N.b),.int .i64 N.c]
 replace Bn:=cas5 Bn [.complex .f64 (fl Z.a) (fl Z.b),.int .i64 Z.c]
 simp only[CAf,Nat.reduceAdd,and_true]at Bl Bm Bn
 (try clear Bi Bj Bk)
 go_wp2_with fail
 refine(one_cl _).mono ?_
 rintro e w6 ⟨rfl,D6⟩
 have Ir:=D6.size
 (try simp at Ir)
 have Iv:=bl5 D6 (u.heap.size+1)
 have Iw:=bl5 D6 (B1)
 have Ix:=bl5 D6 (B2)
 have Iy:=bl5 D6 (B3)
 obtain⟨J6,K7,Ke,Kp,Jm,Jg⟩:=pkb Bo J5 kpw D6
 (try clear Jf Jl)
 go_wp2_with fail
 refine(one_cl _).mono ?_
 rintro e w7 ⟨rfl,D7⟩
 have It:=D7.size
 (try simp at It)
 have Co:=bl5 D7 (u.heap.size+1)
 have Cp:=bl5 D7 (B1)
 have Cq:=bl5 D7 (B2)
 have Cr:=bl5 D7 (B3)
 obtain⟨Kh,K8,Kf,Kq,Ku,Kt⟩:=pkb Bo J6 kpw D7
 (try clear Jg Jm)
 replace Co:=cas5 Co [.complex .f64 0 0,.int .i64 0]
 replace Cp:=cas5 Cp [.complex .f64 (fl N.a) (fl N.b),.int .i64 N.c]
 replace Cq:=cas5 Cq [.complex .f64 (fl Z.a) (fl Z.b),.int .i64 Z.c]
 replace Cr:=cas5 Cr [.complex .f64 (fl X.a) (fl X.b),.int .i64 X.c]
 simp only[CAf,Nat.reduceAdd,and_true]at Co Cp Cq Cr
 (try clear Bl Bm Bn)
 go_wp2_with fail
 obtain⟨b1,hb1⟩:∃x,x=B1:=⟨_,rfl⟩
 obtain⟨b2,hb2⟩:∃x,x=B2:=⟨_,rfl⟩
 obtain⟨b3,hb3⟩:∃x,x=B3:=⟨_,rfl⟩
 subst hb1
 subst hb2
 subst hb3
 have b12:b1<w7.heap.size∧b2<w7.heap.size∧b3<w7.heap.size∧¬b1=b2∧¬b1=b3∧¬b2=b3:=by omega
 go_loopw [74] (fun i wr=>∃(k:Nat) (s t:Res) (q:Int),k≤c∧i = .int .i64 k∧Fine s∧Fine t∧HidP X k ⟨s,t,q⟩∧Trn B q w wr∧w7.heap.size+1<wr.heap.size∧At2 wr (u.heap.size+1) (.complex .f64 0 0) (.int .i64 0)∧At2 wr b1 (.complex .f64 (fl N.a) (fl N.b)) (.int .i64 N.c)∧At2 wr b2 (.complex .f64 (fl Z.a) (fl Z.b)) (.int .i64 Z.c)∧At2 wr b3 (.complex .f64 (fl X.a) (fl X.b)) (.int .i64 X.c)∧At2 wr w7.heap.size (.complex .f64 (fl s.a) (fl s.b)) (.int .i64 s.c)∧At2 wr (w7.heap.size+1) (.complex .f64 (fl t.a) (fl t.b)) (.int .i64 t.c)) (fun i _=>c-(intOf i).toNat)
 case atStart=>exact⟨0,oneR,oneR,X.q,Nat.zero_le _,rfl,fine_oneR,fine_oneR,rfl,trw,by first|(simp;done)|(simp;omega),⟨by go_simp,by go_simp,fun o=>by go_simp⟩,⟨by go_simp,by go_simp,fun o=>by go_simp⟩,⟨by go_simp,by go_simp,fun o=>by go_simp⟩,⟨by go_simp,by go_simp,fun o=>by go_simp⟩,⟨by go_simp,by go_simp,fun o=>by go_simp⟩,⟨by go_simp,by go_simp,fun o=>by go_simp⟩⟩
 case round =>
  obtain⟨k,s,t,q,hk,rfl,fs,ft,HS,By,hsz,⟨Di,Dm,Dq⟩,⟨Dj,Dn,Dr⟩,⟨Ff,Fg,Fh⟩,⟨Dk,Do,Ds⟩,⟨Eb,Ec,Ed⟩,⟨F0,F2,F4⟩⟩:=hrel
  have Ks:=By.le
  have Id:=Lt.turn Bo By
  have H4:=Id.st
  obtain⟨Gu,Gv,Gw,Gx,Gy,Gz,H0,H1,H2⟩:=Id.cells
  have Ie:=H4.cell
  have If:=H4.free
  have Jx:=H4.lt
  have Iz:=own5 Jx
  by_cases hlt:k<c
  ·have hlt2:(k:Int)<c:=by omega
   obtain⟨m,hm⟩:=is_ex (after q (ti t X))
   have fm:Fine m:=hm.fine (fine_after _ (fine_ti _ _))
   obtain⟨t',ht⟩:=is_ex (after m.q (mi noneR m))
   have ft':Fine t':=ht.fine (fine_after _ (fine_mi _ _))
   obtain⟨s',hs⟩:=is_ex (after t'.q (pl s t'))
   have fs':Fine s':=hs.fine (fine_after _ (fine_pl _ _))
   have HS2:=Lib.hid (show HidP X (k+1) ⟨s',t',s'.q⟩from step_is HS hm ht hs)
   have Cm:=Lib.hid ((c_times B q t X ft FX.out).to hm)
   have Ct:=Lib.hid ((c_minus B m.q noneR m fine_noneR fm).to ht)
   have Cs:=Lib.hid ((c_plus B t'.q s t' fs ft').to hs)
   obtain⟨k4,k5⟩:=cw hk hc
   clear HS hm ht hs fm
   go_wp2_with fail
   refine turn (fun i=>i==9||i==10) 11 (by kernel_rfl) (by kernel_rfl) (St.cell (St.turn Be (Trn.kp By kpw))) fun hG => ?_
   have A2:=fun o=>hG (u.heap.size+1) lto o (ne_addr (by omega))
   have Aj:=fun o=>hG (b1) lto o (ne_addr (by omega))
   have C0:=fun o=>hG (b2) lto o (ne_addr (by omega))
   have Bc:=fun o=>hG (b3) lto o (ne_addr (by omega))
   have Am:=fun o=>hG (w7.heap.size) lto o (ne_addr (by omega))
   have Dt:=fun o=>hG (w7.heap.size+1) lto o (ne_addr (by omega))
   have A1:=fun o=>hG B lto (o+1) ne_off
   clear hG
   simp only[List.take_succ_cons,List.take_zero,List.drop_succ_cons,List.drop_zero]
   repeat (first|(refine wpTurn_pure rfl (fun K hK => ?_);go_simp;first|(refine hK _ _ ?_;clear hK K)|(apply Exists.intro;refine⟨fun _ _ => ?_,hK _ _ ?_⟩;(first|(go_at_call 80;with_reducible exact cal_call none_cl));clear hK K))|(refine wpTurn_eff rfl (fun K hK => ?_);go_simp;(first|(first|with_reducible refine⟨_,_,fun _=>tur_st (St.turn Be (Trn.kp By kpw)) (fun w h=>Cm.out w h),?_⟩|with_reducible refine⟨_,_,fun _=>tur_st (St.turn Be (Trn.kp By kpw)) (fun w h=>Ct.out w h),?_⟩));refine hK _ _ ?_;clear hK K))
   refine wpTurn_nil ?_
   intro w21 A9
   clear A1 A2 Aj C0 Bc Am Dt
   have Ei:=A9.size_le
   (try simp at Ei)
   obtain⟨Ci,Cc,C5,A5,Af⟩:=tn5 A9 (u.heap.size+1)
   obtain⟨Cj,Ce,C6,A6,Ag⟩:=tn5 A9 (b1)
   obtain⟨Ck,Cf,C7,Al,Ap⟩:=tn5 A9 (b2)
   obtain⟨Cl,Cg,C8,A7,Ah⟩:=tn5 A9 (b3)
   obtain⟨Dc,Db,Da,Ac,Ak⟩:=tn5 A9 (w7.heap.size)
   have Av:=tn5 A9 (w7.heap.size+1)
   have Aw:=Trn.nx By kpw A9
   have Ig:=Aw.le
   have E4:=Lt.turn Bo Aw
   have Bw:=E4.st
   obtain⟨Eq,Er,Es,Et,Eu,Ev,Ew,Ex,Ey⟩:=E4.cells
   have Fj:=Bw.cell
   have Fk:=Bw.free
   have Gi:=Bw.lt
   have Fq:=own5 Gi
   (try clear Ie If Gu Gv Gw Gx Gy Gz H0 H1 H2 Iz)
   have Cu:w21.cell? ⟨u.heap.size+1,0,none⟩=some (.complex .f64 0 0):=(A5 0).trans (by go_simp)
   have Cy:w21.cell? ⟨u.heap.size+1,1,none⟩=some (.int .i64 0):=(A5 1).trans (by go_simp)
   have D2:∀o,w21.frozen? ⟨u.heap.size+1,o,none⟩=false:=fun o=>(Af o).trans (by go_simp)
   clear A5 Af
   have Cv:w21.cell? ⟨b1,0,none⟩=some (.complex .f64 (fl N.a) (fl N.b)):=(A6 0).trans (by go_simp)
   have Cz:w21.cell? ⟨b1,1,none⟩=some (.int .i64 N.c):=(A6 1).trans (by go_simp)
   have D3:∀o,w21.frozen? ⟨b1,o,none⟩=false:=fun o=>(Ag o).trans (by go_simp)
   clear A6 Ag
   have Ez:w21.cell? ⟨b2,0,none⟩=some (.complex .f64 (fl Z.a) (fl Z.b)):=(Al 0).trans (by go_simp)
   have F1:w21.cell? ⟨b2,1,none⟩=some (.int .i64 Z.c):=(Al 1).trans (by go_simp)
   have F3:∀o,w21.frozen? ⟨b2,o,none⟩=false:=fun o=>(Ap o).trans (by go_simp)
   clear Al Ap
   have Cw:w21.cell? ⟨b3,0,none⟩=some (.complex .f64 (fl X.a) (fl X.b)):=(A7 0).trans (by go_simp)
   have D0:w21.cell? ⟨b3,1,none⟩=some (.int .i64 X.c):=(A7 1).trans (by go_simp)
   have D4:∀o,w21.frozen? ⟨b3,o,none⟩=false:=fun o=>(Ah o).trans (by go_simp)
   clear A7 Ah
   have Dh:w21.cell? ⟨w7.heap.size,0,none⟩=some (.complex .f64 (fl s.a) (fl s.b)):=(Ac 0).trans (by go_simp)
   have Dl:w21.cell? ⟨w7.heap.size,1,none⟩=some (.int .i64 s.c):=(Ac 1).trans (by go_simp)
   have Dp:∀o,w21.frozen? ⟨w7.heap.size,o,none⟩=false:=fun o=>(Ak o).trans (by go_simp)
   clear Ac Ak
   replace Av:=cas5 Av [.complex .f64 (fl t.a) (fl t.b),.int .i64 t.c]
   simp only[CAf,Nat.reduceAdd,and_true]at Av
   (try clear Dq Di Dm Dr Dj Dn Fh Ff Fg Ds Dk Do Ed Eb Ec F4 F0 F2)
   go_wp2_with fail
   refine turn (fun i=>i==5) 6 (by kernel_rfl) (by kernel_rfl) (St.cell (St.turn Be (Trn.kp Aw kpw))) fun hG => ?_
   have A2:=fun o=>hG (u.heap.size+1) lto o (ne_addr (by omega))
   have Aj:=fun o=>hG (b1) lto o (ne_addr (by omega))
   have C0:=fun o=>hG (b2) lto o (ne_addr (by omega))
   have Bc:=fun o=>hG (b3) lto o (ne_addr (by omega))
   have Am:=fun o=>hG (w7.heap.size) lto o (ne_addr (by omega))
   have Dt:=fun o=>hG (w7.heap.size+1) lto o (ne_addr (by omega))
   have A1:=fun o=>hG B lto (o+1) ne_off
   clear hG
   simp only[List.take_succ_cons,List.take_zero,List.drop_succ_cons,List.drop_zero]
   repeat (first|(refine wpTurn_pure rfl (fun K hK => ?_);go_simp;first|(refine hK _ _ ?_;clear hK K)|(apply Exists.intro;refine⟨fun _ _ => ?_,hK _ _ ?_⟩;(first|fail);clear hK K))|(refine wpTurn_eff rfl (fun K hK => ?_);go_simp;(first|(with_reducible refine⟨_,_,fun _=>tur_st (St.turn Be (Trn.kp Aw kpw)) (fun w h=>Cs.out w h),?_⟩));refine hK _ _ ?_;clear hK K))
   refine wpTurn_nil ?_
   intro w22 Aa
   clear A1 A2 Aj C0 Bc Am Dt
   have Ej:=Aa.size_le
   (try simp at Ej)
   obtain⟨Au,At,As,Ab,Ai⟩:=tn5 Aa (u.heap.size+1)
   obtain⟨Eo,Em,Ek,An,B9⟩:=tn5 Aa (b1)
   have Bt:=tn5 Aa (b2)
   obtain⟨Ep,En,El,Ao,Ba⟩:=tn5 Aa (b3)
   obtain⟨Fd,Fc,Fb,Az,Bp⟩:=tn5 Aa (w7.heap.size)
   have Bd:=tn5 Aa (w7.heap.size+1)
   have Ae:=Trn.nx Aw kpw Aa
   have Ih:=Ae.le
   have E5:=Lt.turn Bo Ae
   have Bx:=E5.st
   obtain⟨Dv,Dw,Dx,Dy,Dz,E0,E1,E2,E3⟩:=E5.cells
   have F5:=Bx.cell
   have F6:=Bx.free
   have Gj:=Bx.lt
   have Fa:=own5 Gj
   (try clear Fj Fk Eq Er Es Et Eu Ev Ew Ex Ey Fq)
   have Hb:w22.cell? ⟨u.heap.size+1,0,none⟩=some (.complex .f64 0 0):=(Ab 0).trans (by go_simp)
   have He:w22.cell? ⟨u.heap.size+1,1,none⟩=some (.int .i64 0):=(Ab 1).trans (by go_simp)
   have Hh:∀o,w22.frozen? ⟨u.heap.size+1,o,none⟩=false:=fun o=>(Ai o).trans (by go_simp)
   clear Ab Ai
   have Hc:w22.cell? ⟨b1,0,none⟩=some (.complex .f64 (fl N.a) (fl N.b)):=(An 0).trans (by go_simp)
   have Hf:w22.cell? ⟨b1,1,none⟩=some (.int .i64 N.c):=(An 1).trans (by go_simp)
   have Hi:∀o,w22.frozen? ⟨b1,o,none⟩=false:=fun o=>(B9 o).trans (by go_simp)
   clear An B9
   replace Bt:=cas5 Bt [.complex .f64 (fl Z.a) (fl Z.b),.int .i64 Z.c]
   simp only[CAf,Nat.reduceAdd,and_true]at Bt
   have Hd:w22.cell? ⟨b3,0,none⟩=some (.complex .f64 (fl X.a) (fl X.b)):=(Ao 0).trans (by go_simp)
   have Hg:w22.cell? ⟨b3,1,none⟩=some (.int .i64 X.c):=(Ao 1).trans (by go_simp)
   have Hj:∀o,w22.frozen? ⟨b3,o,none⟩=false:=fun o=>(Ba o).trans (by go_simp)
   clear Ao Ba
   have I3:w22.cell? ⟨w7.heap.size,0,none⟩=some (.complex .f64 (fl s.a) (fl s.b)):=(Az 0).trans (by go_simp)
   have I6:w22.cell? ⟨w7.heap.size,1,none⟩=some (.int .i64 s.c):=(Az 1).trans (by go_simp)
   have I9:∀o,w22.frozen? ⟨w7.heap.size,o,none⟩=false:=fun o=>(Bp o).trans (by go_simp)
   clear Az Bp
   replace Bd:=cas5 Bd [.complex .f64 (fl t'.a) (fl t'.b),.int .i64 t'.c]
   simp only[CAf,Nat.reduceAdd,and_true]at Bd
   (try clear A5 Af Ci Cc C5 D2 Cu Cy A6 Ag Cj Ce C6 D3 Cv Cz Al Ap Ck Cf C7 F3 Ez F1 A7 Ah Cl Cg C8 D4 Cw D0 Ac Ak Dc Db Da Dp Dh Dl Av)
   go_wp2_with fail
   go_roundw
   case rel=>exact⟨k+1,s',t',s'.q,Nat.succ_le_of_lt hlt,by first|(simp;done)|(simp;omega),fs',ft',HS2.out,trw,by first|(simp;done)|(simp;omega),⟨by go_simp,by go_simp,fun o=>by go_simp⟩,⟨by go_simp,by go_simp,fun o=>by go_simp⟩,⟨by go_simp,by go_simp,fun o=>by go_simp⟩,⟨by go_simp,by go_simp,fun o=>by go_simp⟩,⟨by go_simp,by go_simp,fun o=>by go_simp⟩,⟨by go_simp,by go_simp,fun o=>by go_simp⟩⟩
   case measure=>simp[intOf];exact meas_lt hlt
  ·obtain rfl:k=c:=by omega
   have hlt2:¬(k:Int)<k:=by omega
   obtain rfl:p=⟨s,t,q⟩:=HP0.out.symm.trans HS
   dsimp only at Ca Cd
   clear HS HP0 CN CV CG CZ CX
   go_wp2_with fail
   refine turn_new (fun i=>i==12||i==13||i==15) 16 #[.complex .f64 0 0,.int .i64 0] 57 _ rfl (by kernel_rfl) (by kernel_rfl) (by first|omega|(simp;omega)) (St.cell (St.turn Be (Trn.kp By kpw))) (fun a w=>by kernel_rfl) fun hG => ?_
   have A2:=fun o=>hG (u.heap.size+1) lto o (ne_addr (by omega))
   have Aj:=fun o=>hG (b1) lto o (ne_addr (by omega))
   have C0:=fun o=>hG (b2) lto o (ne_addr (by omega))
   have Bc:=fun o=>hG (b3) lto o (ne_addr (by omega))
   have Am:=fun o=>hG (w7.heap.size) lto o (ne_addr (by omega))
   have A1:=fun o=>hG B lto (o+1) ne_off
   clear hG
   simp only[List.take_succ_cons,List.take_zero,List.drop_succ_cons,List.drop_zero]
   repeat (first|(refine wpTurn_pure rfl (fun K hK => ?_);go_simp;first|(refine hK _ _ ?_;clear hK K)|(apply Exists.intro;refine⟨fun _ _ => ?_,hK _ _ ?_⟩;(first|(go_at_call 73;with_reducible exact cal_call one_cl));clear hK K))|(refine wpTurn_eff rfl (fun K hK => ?_);go_simp;(first|(first|with_reducible refine⟨_,_,fun _=>tur_st (St.turn Be (Trn.kp By kpw)) (fun w h=>(Ca.out B).out w h),?_⟩|with_reducible refine⟨_,_,fun _=>tur_st (St.turn Be (Trn.kp By kpw)) (fun w h=>(Cb.out B).out w h),?_⟩|with_reducible refine⟨_,_,fun _=>tur_st (St.turn Be (Trn.kp By kpw)) (fun w h=>(CK.out B).out w h),?_⟩));refine hK _ _ ?_;clear hK K))
   refine wpTurn_nil ?_
   intro B1 w21 hN
   obtain⟨A9,A0,Du,F7,F8⟩:=hN
   (try simp at A0)
   clear A1 A2 Aj C0 Bc Am
   have Ei:=A9.size_le
   (try simp at Ei)
   obtain⟨Ci,Cc,C5,A5,Af⟩:=tn5 A9 (u.heap.size+1)
   obtain⟨Cj,Ce,C6,A6,Ag⟩:=tn5 A9 (b1)
   obtain⟨Ck,Cf,C7,Al,Ap⟩:=tn5 A9 (b2)
   obtain⟨Cl,Cg,C8,A7,Ah⟩:=tn5 A9 (b3)
   obtain⟨Dc,Db,Da,Ac,Ak⟩:=tn5 A9 (w7.heap.size)
   have Aw:=Trn.nx By kpw A9
   have Ig:=Aw.le
   have E4:=Lt.turn Bo Aw
   have Bw:=E4.st
   obtain⟨Eq,Er,Es,Et,Eu,Ev,Ew,Ex,Ey⟩:=E4.cells
   have Fj:=Bw.cell
   have Fk:=Bw.free
   have Gi:=Bw.lt
   have Fq:=own5 Gi
   (try clear Ie If Gu Gv Gw Gx Gy Gz H0 H1 H2 Iz)
   have B6:¬B1=u.heap.size+1:=by first|omega|(simp at A0;omega)
   have B4:¬u.heap.size+1=B1:=by first|omega|(simp at A0;omega)
   have Br:¬B1=b1:=by first|omega|(simp at A0;omega)
   have Bq:¬b1=B1:=by first|omega|(simp at A0;omega)
   have Ht:¬B1=b2:=by first|omega|(simp at A0;omega)
   have Hk:¬b2=B1:=by first|omega|(simp at A0;omega)
   have Hu:¬B1=b3:=by first|omega|(simp at A0;omega)
   have Hl:¬b3=B1:=by first|omega|(simp at A0;omega)
   have C3:¬B1=w7.heap.size:=by first|omega|(simp at A0;omega)
   have C2:¬w7.heap.size=B1:=by first|omega|(simp at A0;omega)
   have B5:¬B1=B:=by first|omega|(simp at A0;omega)
   have B0:¬B=B1:=by first|omega|(simp at A0;omega)
   have Cu:w21.cell? ⟨u.heap.size+1,0,none⟩=some (.complex .f64 0 0):=(A5 0).trans (by go_simp)
   have Cy:w21.cell? ⟨u.heap.size+1,1,none⟩=some (.int .i64 0):=(A5 1).trans (by go_simp)
   have D2:∀o,w21.frozen? ⟨u.heap.size+1,o,none⟩=false:=fun o=>(Af o).trans (by go_simp)
   clear A5 Af
   have Cv:w21.cell? ⟨b1,0,none⟩=some (.complex .f64 (fl N.a) (fl N.b)):=(A6 0).trans (by go_simp)
   have Cz:w21.cell? ⟨b1,1,none⟩=some (.int .i64 N.c):=(A6 1).trans (by go_simp)
   have D3:∀o,w21.frozen? ⟨b1,o,none⟩=false:=fun o=>(Ag o).trans (by go_simp)
   clear A6 Ag
   have Cw:w21.cell? ⟨b3,0,none⟩=some (.complex .f64 (fl X.a) (fl X.b)):=(A7 0).trans (by go_simp)
   have D0:w21.cell? ⟨b3,1,none⟩=some (.int .i64 X.c):=(A7 1).trans (by go_simp)
   have D4:∀o,w21.frozen? ⟨b3,o,none⟩=false:=fun o=>(Ah o).trans (by go_simp)
   clear A7 Ah
   have Dh:w21.cell? ⟨w7.heap.size,0,none⟩=some (.complex .f64 (fl s.a) (fl s.b)):=(Ac 0).trans (by go_simp)
   have Dl:w21.cell? ⟨w7.heap.size,1,none⟩=some (.int .i64 s.c):=(Ac 1).trans (by go_simp)
   have Dp:∀o,w21.frozen? ⟨w7.heap.size,o,none⟩=false:=fun o=>(Ak o).trans (by go_simp)
   clear Ac Ak
   (try clear Dq Di Dm Dr Dj Dn Ds Dk Do Ed Eb Ec)
   go_wp2_with fail
   refine turn (fun i=>i==2||i==5) 6 (by kernel_rfl) (by kernel_rfl) (St.cell (St.turn Be (Trn.kp Aw kpw))) fun hG => ?_
   have A2:=fun o=>hG (u.heap.size+1) lto o (ne_addr (by omega))
   have Aj:=fun o=>hG (b1) lto o (ne_addr (by omega))
   have Bc:=fun o=>hG (b3) lto o (ne_addr (by omega))
   have Am:=fun o=>hG (w7.heap.size) lto o (ne_addr (by omega))
   have Bb:=fun o=>hG (B1) lto o (ne_addr (by omega))
   have A1:=fun o=>hG B lto (o+1) ne_off
   clear hG
   simp only[List.take_succ_cons,List.take_zero,List.drop_succ_cons,List.drop_zero]
   repeat (first|(refine wpTurn_pure rfl (fun K hK => ?_);go_simp;first|(refine hK _ _ ?_;clear hK K)|(apply Exists.intro;refine⟨fun _ _ => ?_,hK _ _ ?_⟩;(first|fail);clear hK K))|(refine wpTurn_eff rfl (fun K hK => ?_);go_simp;(first|(first|with_reducible refine⟨_,_,fun _=>tur_lt (Lt.turn Bo (Trn.kp Aw kpw)) (fun w h=>S1.out B w h),?_⟩|with_reducible refine⟨_,_,fun _=>tur_lt (Lt.turn Bo (Trn.kp Aw kpw)) (fun w h=>S2.out B w h),?_⟩));refine hK _ _ ?_;clear hK K))
   refine wpTurn_nil ?_
   intro w22 Aa
   clear A1 A2 Aj Bc Am Bb
   have Ej:=Aa.size_le
   (try simp at Ej)
   obtain⟨Au,At,As,Ab,Ai⟩:=tn5 Aa (u.heap.size+1)
   obtain⟨Eo,Em,Ek,An,B9⟩:=tn5 Aa (b1)
   obtain⟨Ep,En,El,Ao,Ba⟩:=tn5 Aa (b3)
   obtain⟨Fd,Fc,Fb,Az,Bp⟩:=tn5 Aa (w7.heap.size)
   have I2:=tn5 Aa (B1)
   have Ae:=Trn.nx Aw kpw Aa
   have Ih:=Ae.le
   have E5:=Lt.turn Bo Ae
   have Bx:=E5.st
   obtain⟨Dv,Dw,Dx,Dy,Dz,E0,E1,E2,E3⟩:=E5.cells
   have F5:=Bx.cell
   have F6:=Bx.free
   have Gj:=Bx.lt
   have Fa:=own5 Gj
   (try clear Fj Fk Eq Er Es Et Eu Ev Ew Ex Ey Fq)
   skip
   obtain⟨bK,hbK⟩:∃x,x=B1:=⟨_,rfl⟩
   subst hbK
   by_cases hK:K.q=0
   ·have hK1:(K.q==0)=true:=by simpa using hK
    have e1:vx=bigR X:=by rw[← VX.out.1];unfold sizQ;rw[if_pos hK]
    have e2:vk=bigR K:=by rw[← VX.out.2];unfold sizQ;rw[if_pos hK]
    subst e1
    subst e2
    by_cases hx:1048576≤bigR X
    ·clear Od
     obtain⟨v1,v2,v3,v4⟩:=HV.out
     obtain⟨k1,k2,k3,k4⟩:=bad_at (HT.out.symm.trans (pM_brk hK hx))
     obtain rfl:ta=0:=v1.symm.trans k1
     obtain rfl:tb=0:=v2.symm.trans k2
     obtain rfl:tc=0:=v3.symm.trans k3
     obtain rfl:tq=24:=v4.symm.trans k4
     clear v1 v2 v3 v4 k1 k2 k3 k4 HT HV
     repeat' (first|go_values|go_skip|go_guarded|go_step|go_upon|(simp only[];go_simp))
     refine bodyPost_ret (by simp[results,Tryz.results22,go_sem, *];first|done|rfl) rfl ?_
     exact⟨rfl,(by have hF:=FIN.out _ _ Ae;exact blw)⟩
    ·by_cases hO:O.q=0
     ·skip
      have hO1:(O.q != 0)=false:=by simpa using hO
      have hx0:0≤bigR X:=sx.1
      have hx1:bigR X<1048576:=by omega
      have PB:=Lib.hid (fun k=>pow_wrap hx0 hx1 k)
      obtain⟨e1,e2,e3,e4⟩:=end_wrap hx0 hx1 sk.1 sk.2 (k+1)
      obtain⟨e5,e6⟩:=up_bd e3 e4 (show 1≤1048576-bigR X by omega)
      obtain⟨e7,e8⟩:=sum_wrap hO0.1 hO0.2 e5 e6
      have e9:wrap64 (1048576-bigR X)=1048576-bigR X:=IntWalk.wrap64_in _ ⟨by omega,by omega⟩
      have e10:IntKind.i64.wrap (1048576-bigR X)=1048576-bigR X:=IntWalk.i64_in _ ⟨by omega,by omega⟩
      have UE:=Lib.hid (fun w=>up_bel (bigR K*powQ (bigR X) (k+1)) (1048576-bigR X) w e3 (by omega) (by omega) (by omega))
      have UP:=Lib.hid (fun j w=>show Calls Tryz.prog 44 #[.int .i64 (powQ (bigR X) j*bigR X),.int .i64 1048576] w fun e w'=>e = .returned (.int .i64 (powQ (bigR X) (j+1)))∧Below w.heap.size w w' from by rw[powQ_up];exact up_bel _ _ w (PB.out j).2.2.1 (PB.out j).2.2.2 (by decide) (by decide))
      have HT2:=Lib.hid (And.intro (fun h=>HT.out.symm.trans (pM_big hK hx hO h)) (fun h=>HT.out.symm.trans (pM_ok hK hx hO h)))
      obtain⟨k6,k7⟩:=cw (Nat.le_refl k) hc
      clear HT Od hO hK hx0 hx1 sx sk e3 e4 e5 e6
      generalize hR:up (bigR K*powQ (bigR X) (k+1)) (1048576-bigR X)=rad at *
      generalize bigR X=sX at *
      generalize bigR K=sK at *
      go_wp2_with fail
      refine turn_new (fun i=>i==9||i==10) 11 #[.complex .f64 0 0,.int .i64 0] 57 _ rfl (by kernel_rfl) (by kernel_rfl) (by first|omega|(simp;omega)) (St.cell (St.turn Be (Trn.kp Ae kpw))) (fun a w=>by kernel_rfl) fun hG => ?_
      have A2:=fun o=>hG (u.heap.size+1) lto o (ne_addr (by omega))
      have Aj:=fun o=>hG (b1) lto o (ne_addr (by omega))
      have Am:=fun o=>hG (w7.heap.size) lto o (ne_addr (by omega))
      have C1:=fun o=>hG (bK) lto o (ne_addr (by omega))
      have A1:=fun o=>hG B lto (o+1) ne_off
      clear hG
      simp only[List.take_succ_cons,List.take_zero,List.drop_succ_cons,List.drop_zero]
      repeat (first|(refine wpTurn_pure rfl (fun K hK => ?_);go_simp;first|(refine hK _ _ ?_;clear hK K)|(apply Exists.intro;refine⟨fun _ _ => ?_,hK _ _ ?_⟩;(first|fail);clear hK K))|(refine wpTurn_eff rfl (fun K hK => ?_);go_simp;(first|(first|with_reducible refine⟨_,_,fun _=>tur_st (St.turn Be (Trn.kp Ae kpw)) (fun w h=>(Cd.out B).out w h),?_⟩|with_reducible refine⟨_,_,fun _=>tur_st (St.turn Be (Trn.kp Ae kpw)) (fun w h=>(CO.out B).out w h),?_⟩));refine hK _ _ ?_;clear hK K))
      refine wpTurn_nil ?_
      intro B1 w23 hN
      obtain⟨A4,A0,Du,F7,F8⟩:=hN
      (try simp at A0)
      clear A1 A2 Aj Am C1
      have C4:=A4.size_le
      (try simp at C4)
      obtain⟨Cn,Ch,C9,A3,A8⟩:=tn5 A4 (u.heap.size+1)
      have Dd:=tn5 A4 (b1)
      have Ea:=tn5 A4 (w7.heap.size)
      have De:=tn5 A4 (bK)
      have B7:=Trn.nx Ae kpw A4
      have Gq:=B7.le
      have Bu:=Lt.turn Bo B7
      have Ax:=Bu.st
      obtain⟨Fr,Fu,Fx,G0,G3,G6,G9,Gc,Gf⟩:=Bu.cells
      have Gl:=Ax.cell
      have Gn:=Ax.free
      have Ee:=Ax.lt
      have Gs:=own5 Ee
      (try clear F5 F6 Dv Dw Dx Dy Dz E0 E1 E2 E3 Fa)
      have B6:¬B1=u.heap.size+1:=by first|omega|(simp at A0;omega)
      have B4:¬u.heap.size+1=B1:=by first|omega|(simp at A0;omega)
      have Br:¬B1=b1:=by first|omega|(simp at A0;omega)
      have Bq:¬b1=B1:=by first|omega|(simp at A0;omega)
      have C3:¬B1=w7.heap.size:=by first|omega|(simp at A0;omega)
      have C2:¬w7.heap.size=B1:=by first|omega|(simp at A0;omega)
      have D9:¬B1=bK:=by first|omega|(simp at A0;omega)
      have D8:¬bK=B1:=by first|omega|(simp at A0;omega)
      have B5:¬B1=B:=by first|omega|(simp at A0;omega)
      have B0:¬B=B1:=by first|omega|(simp at A0;omega)
      have Cx:w23.cell? ⟨u.heap.size+1,0,none⟩=some (.complex .f64 0 0):=(A3 0).trans (by go_simp)
      have D1:w23.cell? ⟨u.heap.size+1,1,none⟩=some (.int .i64 0):=(A3 1).trans (by go_simp)
      have D5:∀o,w23.frozen? ⟨u.heap.size+1,o,none⟩=false:=fun o=>(A8 o).trans (by go_simp)
      clear A3 A8
      (try clear Ab Ai Au At As)
      go_wp2_with fail
      obtain⟨bO,hbO⟩:∃x,x=B1:=⟨_,rfl⟩
      subst hbO
      go_loopw [18,152] (fun a i wr=>∃j:Nat,j≤k+1∧i = .int .i64 j∧a = .int .i64 (powQ sX j)∧Trn B O.q w wr∧bO<wr.heap.size∧At2 wr (u.heap.size+1) (.complex .f64 0 0) (.int .i64 0)∧At2 wr bO (.complex .f64 (fl O.a) (fl O.b)) (.int .i64 O.c)) (fun _ i _=>k+1-(intOf i).toNat)
      case atStart=>exact⟨0,Nat.zero_le _,rfl,rfl,trw,by first|(simp;done)|(simp;omega),⟨by go_simp,by go_simp,fun o=>by go_simp⟩,⟨by go_simp,by go_simp,fun o=>by go_simp⟩⟩
      case round =>
       obtain⟨wq,hwq⟩:∃x,x=wr:=⟨_,rfl⟩
       subst hwq
       obtain⟨j,hj,rfl,rfl,Fi,Fe,⟨I4,I7,Ia⟩,⟨I5,I8,Ib⟩⟩:=hrel
       have Kr:=Fi.le
       have Ic:=Lt.turn Bo Fi
       have H3:=Ic.st
       obtain⟨Ft,Fw,Fz,G2,G5,G8,Gb,Ge,Gh⟩:=Ic.cells
       have H8:=H3.cell
       have H9:=H3.free
       have Jw:=H3.lt
       have Ha:=own5 Jw
       by_cases hlj:j<k+1
       ·have hlj2:(j:Int)<k+1:=lt_cast hlj
        obtain⟨p1,p2,_,_⟩:=PB.out j
        obtain⟨j4,j5⟩:=cw (Nat.le_trans (Nat.le_of_lt_succ hlj) hc) (Nat.le_refl 60)
        have UJ:=Lib.hid (UP.out j)
        clear UP PB UE HT2
        obtain⟨P1,hP1⟩:∃x,powQ sX (j+1)=x:=⟨_,rfl⟩
        rw[hP1]at UJ
        have HP1:=Lib.hid hP1
        clear hP1
        generalize powQ sX j=P0 at *
        go_wp2_with fail
        refine(UJ.out _).mono ?_
        rintro e w31 ⟨rfl,Ad⟩
        have Bs:=Ad.size
        (try simp at Bs)
        have Df:=bl5 Ad (u.heap.size+1)
        have Dg:=bl5 Ad (bO)
        have B8:=Trn.nb Fi kpw Ad
        have Gr:=B8.le
        have Bv:=Lt.turn Bo B8
        have Ay:=Bv.st
        obtain⟨Fs,Fv,Fy,G1,G4,G7,Ga,Gd,Gg⟩:=Bv.cells
        have Gm:=Ay.cell
        have Gp:=Ay.free
        have Ef:=Ay.lt
        have Gt:=own5 Ef
        (try clear H8 H9 Ft Fw Fz G2 G5 G8 Gb Ge Gh Ha)
        go_wp2_with fail
        go_roundw
        case rel=>exact⟨j+1,Nat.succ_le_of_lt hlj,by first|(simp;done)|(simp;omega),by rw[HP1.out],trw,by first|exact Nat.lt_of_lt_of_le Fe Bs|assumption|(simp;done)|(simp;omega),⟨by go_simp,by go_simp,fun o=>by go_simp⟩,⟨by go_simp,by go_simp,fun o=>by go_simp⟩⟩
        case measure=>simp[intOf];first|exact meas_lt2 hlj|exact meas_lt hlj
       ·obtain rfl:j=k+1:=Nat.le_antisymm hj (Nat.le_of_not_lt hlj)
        have hlj2:=no_lt1 k
        have hlj3:=no_lt2 k
        clear UP PB
        generalize powQ sX (k+1)=P1 at *
        by_cases hbig:67108864<O.c+rad
        ·obtain⟨v1,v2,v3,v4⟩:=HV.out
         obtain⟨k1,k2,k3,k4⟩:=bad_at (HT2.out.1 hbig)
         obtain rfl:ta=0:=v1.symm.trans k1
         obtain rfl:tb=0:=v2.symm.trans k2
         obtain rfl:tc=0:=v3.symm.trans k3
         obtain rfl:tq=8:=v4.symm.trans k4
         clear v1 v2 v3 v4 k1 k2 k3 k4 HT2 HV
         go_wp2_with fail
         refine calm 10 (by kernel_rfl) (by kernel_rfl) fun hG => ?_
         have A2:=hG (u.heap.size+1) lto
         have Eh:=hG (bO) lto
         have A1:=hG B lto
         clear hG
         simp only[List.take_succ_cons,List.take_zero,List.drop_succ_cons,List.drop_zero]
         repeat (go_big_quiet_step (first|(go_at_call 44;with_reducible exact calm_call UE.out)))
         refine wpQuiet_nil ?_
         intro w31 Ad
         clear A2 Eh A1
         have Bs:=Ad.size
         (try simp at Bs)
         have Df:=bl5 Ad (u.heap.size+1)
         have Dg:=bl5 Ad (bO)
         have B8:=Trn.nb Fi kpw Ad
         have Gr:=B8.le
         have Bv:=Lt.turn Bo B8
         have Ay:=Bv.st
         obtain⟨Fs,Fv,Fy,G1,G4,G7,Ga,Gd,Gg⟩:=Bv.cells
         have Gm:=Ay.cell
         have Gp:=Ay.free
         have Ef:=Ay.lt
         have Gt:=own5 Ef
         (try clear H8 H9 Ft Fw Fz G2 G5 G8 Gb Ge Gh Ha)
         repeat' (first|go_values|go_skip|go_guarded|go_step|go_upon|(simp only[];go_simp))
         refine bodyPost_ret (by simp[results,Tryz.results22,go_sem, *];first|done|rfl) rfl ?_
         exact⟨rfl,(by have hF:=FIN.out _ _ B8;exact blw)⟩
        ·obtain⟨v1,v2,v3,v4⟩:=HV.out
         obtain⟨k1,k2,k3,k4⟩:=good_at (HT2.out.2 (by first|exact hbig|exact Int.not_lt.1 hbig))
         obtain rfl:ta=fl O.a:=v1.symm.trans k1
         obtain rfl:tb=fl O.b:=v2.symm.trans k2
         obtain rfl:tc=O.c+rad:=v3.symm.trans k3
         obtain rfl:tq=0:=v4.symm.trans k4
         clear v1 v2 v3 v4 k1 k2 k3 k4 HT2 HV
         go_wp2_with fail
         refine calm 10 (by kernel_rfl) (by kernel_rfl) fun hG => ?_
         have A2:=hG (u.heap.size+1) lto
         have Eh:=hG (bO) lto
         have A1:=hG B lto
         clear hG
         simp only[List.take_succ_cons,List.take_zero,List.drop_succ_cons,List.drop_zero]
         repeat (go_big_quiet_step (first|(go_at_call 44;with_reducible exact calm_call UE.out)))
         refine wpQuiet_nil ?_
         intro w31 Ad
         clear A2 Eh A1
         have Bs:=Ad.size
         (try simp at Bs)
         have Df:=bl5 Ad (u.heap.size+1)
         have Dg:=bl5 Ad (bO)
         have B8:=Trn.nb Fi kpw Ad
         have Gr:=B8.le
         have Bv:=Lt.turn Bo B8
         have Ay:=Bv.st
         obtain⟨Fs,Fv,Fy,G1,G4,G7,Ga,Gd,Gg⟩:=Bv.cells
         have Gm:=Ay.cell
         have Gp:=Ay.free
         have Ef:=Ay.lt
         have Gt:=own5 Ef
         (try clear H8 H9 Ft Fw Fz G2 G5 G8 Gb Ge Gh Ha)
         repeat' (first|go_values|go_skip|go_guarded|go_step|go_upon|(simp only[];go_simp))
         refine bodyPost_ret (by simp[results,Tryz.results22,go_sem, *];first|done|rfl) rfl ?_
         exact⟨rfl,(by have hF:=FIN.out _ _ B8;exact blw)⟩
     ·skip
      obtain⟨v1,v2,v3,v4⟩:=HV.out
      obtain⟨k1,k2,k3,k4⟩:=bad_at (HT.out.symm.trans (pM_bad hO (by first|exact fun _=>hx|exact fun h=>absurd h hK) Od.out))
      obtain rfl:ta=0:=v1.symm.trans k1
      obtain rfl:tb=0:=v2.symm.trans k2
      obtain rfl:tc=0:=v3.symm.trans k3
      obtain rfl:tq=O.q:=v4.symm.trans k4
      clear v1 v2 v3 v4 k1 k2 k3 k4 HT HV Od
      have hO1:(O.q != 0)=true:=by simpa using hO
      clear hO
      (try clear hK)
      go_wp2_with fail
      refine turn_new (fun i=>i==9||i==10) 11 #[.complex .f64 0 0,.int .i64 0] 57 _ rfl (by kernel_rfl) (by kernel_rfl) (by first|omega|(simp;omega)) (St.cell (St.turn Be (Trn.kp Ae kpw))) (fun a w=>by kernel_rfl) fun hG => ?_
      have A2:=fun o=>hG (u.heap.size+1) lto o (ne_addr (by omega))
      have Aj:=fun o=>hG (b1) lto o (ne_addr (by omega))
      have Am:=fun o=>hG (w7.heap.size) lto o (ne_addr (by omega))
      have C1:=fun o=>hG (bK) lto o (ne_addr (by omega))
      have A1:=fun o=>hG B lto (o+1) ne_off
      clear hG
      simp only[List.take_succ_cons,List.take_zero,List.drop_succ_cons,List.drop_zero]
      repeat (first|(refine wpTurn_pure rfl (fun K hK => ?_);go_simp;first|(refine hK _ _ ?_;clear hK K)|(apply Exists.intro;refine⟨fun _ _ => ?_,hK _ _ ?_⟩;(first|fail);clear hK K))|(refine wpTurn_eff rfl (fun K hK => ?_);go_simp;(first|(first|with_reducible refine⟨_,_,fun _=>tur_st (St.turn Be (Trn.kp Ae kpw)) (fun w h=>(Cd.out B).out w h),?_⟩|with_reducible refine⟨_,_,fun _=>tur_st (St.turn Be (Trn.kp Ae kpw)) (fun w h=>(CO.out B).out w h),?_⟩));refine hK _ _ ?_;clear hK K))
      refine wpTurn_nil ?_
      intro B1 w23 hN
      obtain⟨A4,A0,Du,F7,F8⟩:=hN
      (try simp at A0)
      clear A1 A2 Aj Am C1
      have C4:=A4.size_le
      (try simp at C4)
      obtain⟨Cn,Ch,C9,A3,A8⟩:=tn5 A4 (u.heap.size+1)
      have Dd:=tn5 A4 (b1)
      have Ea:=tn5 A4 (w7.heap.size)
      have De:=tn5 A4 (bK)
      have B7:=Trn.nx Ae kpw A4
      have Gq:=B7.le
      have Bu:=Lt.turn Bo B7
      have Ax:=Bu.st
      obtain⟨Fr,Fu,Fx,G0,G3,G6,G9,Gc,Gf⟩:=Bu.cells
      have Gl:=Ax.cell
      have Gn:=Ax.free
      have Ee:=Ax.lt
      have Gs:=own5 Ee
      (try clear F5 F6 Dv Dw Dx Dy Dz E0 E1 E2 E3 Fa)
      have B6:¬B1=u.heap.size+1:=by first|omega|(simp at A0;omega)
      have B4:¬u.heap.size+1=B1:=by first|omega|(simp at A0;omega)
      have Br:¬B1=b1:=by first|omega|(simp at A0;omega)
      have Bq:¬b1=B1:=by first|omega|(simp at A0;omega)
      have C3:¬B1=w7.heap.size:=by first|omega|(simp at A0;omega)
      have C2:¬w7.heap.size=B1:=by first|omega|(simp at A0;omega)
      have D9:¬B1=bK:=by first|omega|(simp at A0;omega)
      have D8:¬bK=B1:=by first|omega|(simp at A0;omega)
      have B5:¬B1=B:=by first|omega|(simp at A0;omega)
      have B0:¬B=B1:=by first|omega|(simp at A0;omega)
      have Cx:w23.cell? ⟨u.heap.size+1,0,none⟩=some (.complex .f64 0 0):=(A3 0).trans (by go_simp)
      have D1:w23.cell? ⟨u.heap.size+1,1,none⟩=some (.int .i64 0):=(A3 1).trans (by go_simp)
      have D5:∀o,w23.frozen? ⟨u.heap.size+1,o,none⟩=false:=fun o=>(A8 o).trans (by go_simp)
      clear A3 A8
      (try clear Ab Ai Au At As)
      go_wp2_with fail
      go_region_held3 (fun w'=>w'.cell? ⟨B,0,none⟩=some (Value.int .i64 O.q)) (simp[*,go_sem]) (fail)
      repeat' (first|go_values|go_skip|go_guarded|go_step|go_upon|(simp only[];go_simp))
      refine bodyPost_ret (by simp[results,Tryz.results22,go_sem, *];first|done|rfl) rfl ?_
      exact⟨rfl,(by have hF:=FIN.out _ _ B7;exact blw)⟩
   ·have hK1:(K.q==0)=false:=by simpa using hK
    have hO:¬O.q=0:=by rw[Od.out hK];exact hK
    obtain⟨v1,v2,v3,v4⟩:=HV.out
    obtain⟨k1,k2,k3,k4⟩:=bad_at (HT.out.symm.trans (pM_bad hO (by first|exact fun _=>hx|exact fun h=>absurd h hK) Od.out))
    obtain rfl:ta=0:=v1.symm.trans k1
    obtain rfl:tb=0:=v2.symm.trans k2
    obtain rfl:tc=0:=v3.symm.trans k3
    obtain rfl:tq=O.q:=v4.symm.trans k4
    clear v1 v2 v3 v4 k1 k2 k3 k4 HT HV Od
    have hO1:(O.q != 0)=true:=by simpa using hO
    clear hO
    (try clear hK)
    go_wp2_with fail
    refine turn_new (fun i=>i==9||i==10) 11 #[.complex .f64 0 0,.int .i64 0] 57 _ rfl (by kernel_rfl) (by kernel_rfl) (by first|omega|(simp;omega)) (St.cell (St.turn Be (Trn.kp Ae kpw))) (fun a w=>by kernel_rfl) fun hG => ?_
    have A2:=fun o=>hG (u.heap.size+1) lto o (ne_addr (by omega))
    have Aj:=fun o=>hG (b1) lto o (ne_addr (by omega))
    have Am:=fun o=>hG (w7.heap.size) lto o (ne_addr (by omega))
    have C1:=fun o=>hG (bK) lto o (ne_addr (by omega))
    have A1:=fun o=>hG B lto (o+1) ne_off
    clear hG
    simp only[List.take_succ_cons,List.take_zero,List.drop_succ_cons,List.drop_zero]
    repeat (first|(refine wpTurn_pure rfl (fun K hK => ?_);go_simp;first|(refine hK _ _ ?_;clear hK K)|(apply Exists.intro;refine⟨fun _ _ => ?_,hK _ _ ?_⟩;(first|fail);clear hK K))|(refine wpTurn_eff rfl (fun K hK => ?_);go_simp;(first|(first|with_reducible refine⟨_,_,fun _=>tur_st (St.turn Be (Trn.kp Ae kpw)) (fun w h=>(Cd.out B).out w h),?_⟩|with_reducible refine⟨_,_,fun _=>tur_st (St.turn Be (Trn.kp Ae kpw)) (fun w h=>(CO.out B).out w h),?_⟩));refine hK _ _ ?_;clear hK K))
    refine wpTurn_nil ?_
    intro B1 w23 hN
    obtain⟨A4,A0,Du,F7,F8⟩:=hN
    (try simp at A0)
    clear A1 A2 Aj Am C1
    have C4:=A4.size_le
    (try simp at C4)
    obtain⟨Cn,Ch,C9,A3,A8⟩:=tn5 A4 (u.heap.size+1)
    have Dd:=tn5 A4 (b1)
    have Ea:=tn5 A4 (w7.heap.size)
    have De:=tn5 A4 (bK)
    have B7:=Trn.nx Ae kpw A4
    have Gq:=B7.le
    have Bu:=Lt.turn Bo B7
    have Ax:=Bu.st
    obtain⟨Fr,Fu,Fx,G0,G3,G6,G9,Gc,Gf⟩:=Bu.cells
    have Gl:=Ax.cell
    have Gn:=Ax.free
    have Ee:=Ax.lt
    have Gs:=own5 Ee
    (try clear F5 F6 Dv Dw Dx Dy Dz E0 E1 E2 E3 Fa)
    have B6:¬B1=u.heap.size+1:=by first|omega|(simp at A0;omega)
    have B4:¬u.heap.size+1=B1:=by first|omega|(simp at A0;omega)
    have Br:¬B1=b1:=by first|omega|(simp at A0;omega)
    have Bq:¬b1=B1:=by first|omega|(simp at A0;omega)
    have C3:¬B1=w7.heap.size:=by first|omega|(simp at A0;omega)
    have C2:¬w7.heap.size=B1:=by first|omega|(simp at A0;omega)
    have D9:¬B1=bK:=by first|omega|(simp at A0;omega)
    have D8:¬bK=B1:=by first|omega|(simp at A0;omega)
    have B5:¬B1=B:=by first|omega|(simp at A0;omega)
    have B0:¬B=B1:=by first|omega|(simp at A0;omega)
    have Cx:w23.cell? ⟨u.heap.size+1,0,none⟩=some (.complex .f64 0 0):=(A3 0).trans (by go_simp)
    have D1:w23.cell? ⟨u.heap.size+1,1,none⟩=some (.int .i64 0):=(A3 1).trans (by go_simp)
    have D5:∀o,w23.frozen? ⟨u.heap.size+1,o,none⟩=false:=fun o=>(A8 o).trans (by go_simp)
    clear A3 A8
    (try clear Ab Ai Au At As)
    go_wp2_with fail
    go_region_held3 (fun w'=>w'.cell? ⟨B,0,none⟩=some (Value.int .i64 O.q)) (simp[*,go_sem]) (fail)
    repeat' (first|go_values|go_skip|go_guarded|go_step|go_upon|(simp only[];go_simp))
    refine bodyPost_ret (by simp[results,Tryz.results22,go_sem, *];first|done|rfl) rfl ?_
    exact⟨rfl,(by have hF:=FIN.out _ _ B7;exact blw)⟩
end Go.Proofs.YticobgianbecpaaGreatDoor
