/- Joined: ArcWalk ArcDir ArcPub. -/
import Derived.Test.YticobgianbecpaaGreatDoorKAwake
import Derived.Test.YticobgianbecpaaGreatDoorKLaw
import Derived.Outline
import Derived.Test.YticobgianbecpaaGreatDoorKAdds
import Derived.Test.YticobgianbecpaaGreatDoorKCalm
namespace Go.Proofs.YticobgianbecpaaGreatDoor
open Go.RowKit
theorem Dirn.sm {a b:Int} (h:Dirn a b):Sm a∧Sm b:=by unfold Dirn at h;unfold Sm;omega
set_option maxHeartbeats 1000000 in
theorem between_any (a b c d:Int) (w:World) (h:Dirn a b) (h':Dirn c d) :
  Calls Tryz.prog 269 #[.agg #[.int .i64 a,.int .i64 b],.agg #[.int .i64 c,.int .i64 d]] w fun e w'=>e = .returned (.agg #[.int .i64 (bwX a b c d),.int .i64 (bwY a b c d)])∧Below w.heap.size w w':=by
 have⟨f1,f2,f3,f4,f5,f6,f7,f8,f9⟩:=bw_facts h h'
 have CP:=Lib.hid (fun w=>plus_any a b c d w h.sm.1 h.sm.2 h'.sm.1 h'.sm.2)
 have s1:Sm (a+c):=by unfold Dirn at h h';unfold Sm;omega
 have s2:Sm (b+d):=by unfold Dirn at h h';unfold Sm;omega
 have CS:=Lib.hid (fun w=>square_any (a+c) (b+d) w s1 s2)
 have hR:bwR a b c d=rt ((a+c)*(a+c)+(b+d)*(b+d)):=by unfold bwR;rfl
 have cr:=fun w=>root_any ((a+c)*(a+c)+(b+d)*(b+d)) w (by omega) (by omega)
 rw[← hR]at cr
 have CR:=Lib.hid cr
 have eX:((a+c)*67108864).tdiv (bwR a b c d)=bwX a b c d:=by unfold bwX;exact Int.tdiv_eq_ediv_of_nonneg f6
 have eY:((b+d)*67108864).tdiv (bwR a b c d)=bwY a b c d:=by unfold bwY;exact Int.tdiv_eq_ediv_of_nonneg f8
 have wX:IntKind.i64.wrap ((a+c)*67108864)=(a+c)*67108864:=IntWalk.i64_in _ (by omega)
 have wY:IntKind.i64.wrap ((b+d)*67108864)=(b+d)*67108864:=IntWalk.i64_in _ (by omega)
 have db:=bw_dirn h h'
 unfold Dirn at db
 obtain⟨g1,g2,g3,g4⟩:=db
 have vX:IntKind.i64.wrap (bwX a b c d)=bwX a b c d:=IntWalk.i64_in _ (by omega)
 have vY:IntKind.i64.wrap (bwY a b c d)=bwY a b c d:=IntWalk.i64_in _ (by omega)
 clear cr hR s1 s2 h h'
 generalize bwX a b c d=X at *
 generalize bwY a b c d=Y at *
 generalize bwR a b c d=r at *
 generalize (a+c)*(a+c)+(b+d)*(b+d)=S at *
 generalize a+c=p at *
 generalize b+d=q at *
 go_enter Tryz.func269,Tryz.ntmps269
 go_wp2_with fail
 refine(CP.out _).mono ?_
 rintro e w1 ⟨rfl,A1⟩
 have A2:=A1.size
 (try simp at A2)
 have Ae:=bl5 A1 (w.heap.size+1+1)
 go_wp2_with fail
 refine(CS.out _).mono ?_
 rintro e w2 ⟨rfl,A0⟩
 have A3:=A0.size
 (try simp at A3)
 have Ag:=bl5 A0 (w.heap.size+1+1)
 have A7:=bl5 A0 (w1.heap.size)
 go_wp2_with fail
 refine(CR.out _).mono ?_
 rintro e w' ⟨rfl,rfl⟩
 go_wp2_with fail
 refine calm 11 (by kernel_rfl) (by kernel_rfl) fun hG => ?_
 have Aa:=hG (w.heap.size+1+1) lto
 have Ac:=hG (w1.heap.size) lto
 clear hG
 simp only[List.take_succ_cons,List.take_zero,List.drop_succ_cons,List.drop_zero]
 repeat (go_big_quiet_step (first|fail))
 refine wpQuiet_nil ?_
 intro w3 A5
 clear Aa Ac
 have Ab:=A5.size
 (try simp at Ab)
 have Al:=bl5 A5 (w.heap.size+1+1)
 have Am:=bl5 A5 (w1.heap.size)
 go_wp2
 refine bodyPost_ret (by simp[results,Tryz.results269,go_sem, *];first|done|rfl) rfl ?_
 exact⟨rfl,blw⟩
def Pt (w:World) (b:Nat) (x y:Int):Prop:=w.cell? ⟨b,0,none⟩=some (.int .i64 x)∧w.cell? ⟨b,1,none⟩=some (.int .i64 y)∧w.frozen? ⟨b,0,none⟩=false∧w.frozen? ⟨b,1,none⟩=false
theorem dirF_step (k j:Nat) (a b c d:Int):dirF (k+1) j a b c d=if 2^k≤j then dirF k (j-2^k) (bwX a b c d) (bwY a b c d) c d else dirF k j a b (bwX a b c d) (bwY a b c d):=rfl
set_option maxRecDepth 100000 in
set_option maxHeartbeats 4000000 in
theorem first_any (m:Nat) (w:World) (hm:m≤524288) :
  Calls Tryz.prog 252 #[.int .i64 m] w fun e w'=>e = .returned (.agg #[.int .i64 (fstX m),.int .i64 (fstY m)])∧Below w.heap.size w w':=by
 go_enter Tryz.func252,Tryz.ntmps252
 go_wp2_with fail
 refine(root_any _ _ (by omega) (by omega)).mono ?_
 rintro e w' ⟨rfl,rfl⟩
 rw[rt_eighth]
 go_wp2_with fail
 go_loopw [6,7] (fun s t wr=>∃(k lo hi:Nat) (a b c d:Int),k≤19∧Hid (hi=lo+2^k)∧lo≤m∧m≤hi∧hi≤524288∧Dirn a b∧Dirn c d∧Hid (dirF 19 m 67108864 0 47453132 47453132=dirF k (m-lo) a b c d) ∧
   s = .int .i64 lo∧t = .int .i64 hi∧Pt wr (w.heap.size+1) a b∧Pt wr (w.heap.size+1+1) c d∧Pt wr w.heap.size 0 0∧Below w.heap.size w wr∧w.heap.size+1+1<wr.heap.size) (fun s t _=>(intOf t).toNat-(intOf s).toNat)
 case atStart =>
  refine⟨19,0,524288,_,_,_,_,by omega,Lib.hid rfl,by omega,by omega,by omega,dirn_a,dirn_b,Lib.hid rfl,rfl,rfl,?_,?_,?_,blw,by simp⟩<;>(unfold Pt;simp[go_sem])
 case round =>
  obtain⟨k,lo,hi,a,b,c,d,hk,H1,h2,h3,h4,d1,d2,H5,rfl,rfl,p1,p2,p3,hb,hsz⟩:=hrel
  unfold Pt at p1 p2 p3
  obtain⟨p10,p11,p12,p13⟩:=p1
  obtain⟨p20,p21,p22,p23⟩:=p2
  obtain⟨p30,p31,p32,p33⟩:=p3
  have q1:w.heap.size<wr.heap.size:=by omega
  have q2:w.heap.size+1<wr.heap.size:=by omega
  by_cases e1:m=lo
  ·have HF:Hid ((fstX m,fstY m)=(a,b)):=Lib.hid (by unfold fstX fstY;rw[H5.out,e1,Nat.sub_self,dirF_lo])
   have t1:((m:Int) != (lo:Int))=false:=by simp[e1]
   have t2:((m:Int)==(lo:Int))=true:=by simp[e1]
   clear e1 H5 H1
   go_wp2
   refine bodyPost_ret (v := .agg #[.int .i64 a,.int .i64 b]) (by simp[results,Tryz.results252,go_sem, *]) rfl ⟨?_,blw⟩
   have:=HF.out
   simp only[Prod.mk.injEq]at this
   rw[this.1,this.2]
  ·by_cases e2:m=hi
   ·have HF:Hid ((fstX m,fstY m)=(c,d)):=Lib.hid (by unfold fstX fstY;rw[H5.out,show m-lo=2^k by rw[e2,H1.out];exact Nat.add_sub_cancel_left _ _,dirF_hi])
    have t1:((m:Int) != (lo:Int))=true:=by simp;omega
    have t2:((m:Int)==(lo:Int))=false:=by simp;omega
    have t3:((m:Int) != (hi:Int))=false:=by simp[e2]
    clear e1 e2 H5 H1
    go_wp2
    refine bodyPost_ret (v := .agg #[.int .i64 c,.int .i64 d]) (by simp[results,Tryz.results252,go_sem, *]) rfl ⟨?_,blw⟩
    have:=HF.out
    simp only[Prod.mk.injEq]at this
    rw[this.1,this.2]
   ·obtain⟨k,rfl⟩:∃k',k=k'+1:=by
     rcases k with _|k
     ·have:=H1.out;simp at this;omega
     ·exact⟨k,rfl⟩
    have hT0:2^(k+1)=2^k+2^k:=by rw[Nat.pow_succ];omega
    have hTp:0<2^k:=Nat.two_pow_pos k
    have HS:=Lib.hid (dirF_step k (m-lo) a b c d)
    have CB:=Lib.hid (fun w=>between_any a b c d w d1 d2)
    have d3:=bw_dirn d1 d2
    have H1':Hid (hi=lo+(2^k+2^k)):=Lib.hid (by rw[← hT0];exact H1.out)
    obtain⟨T,hT⟩:∃T:Nat,T=2^k:=⟨_,rfl⟩
    have H6:=Lib.hid hT
    rw[← hT]at H1' HS hTp
    clear hT hT0 H1
    generalize bwX a b c d=X at *
    generalize bwY a b c d=Y at *
    have t1:((m:Int) != (lo:Int))=true:=by simp;omega
    have t3:((m:Int) != (hi:Int))=true:=by simp;omega
    have t4:(lo:Int)<m:=by omega
    have t5:(m:Int)<hi:=by omega
    have E1:=Lib.hid e1
    have E2:=Lib.hid e2
    have TP:=Lib.hid hTp
    clear e1 e2 hTp
    by_cases hc:lo+T≤m
    ·have t6:((lo:Int)+hi)/2≤(m:Int):=by have:=H1'.out;omega
     have HC:=Lib.hid hc
     clear hc
     go_wp2_with fail
     refine(CB.out _).mono ?_
     rintro e w1 ⟨rfl,hb1⟩
     have A2:=hb1.size
     (try simp at A2)
     have A4:=bl5 hb1 (w.heap.size)
     have A6:=bl5 hb1 (w.heap.size+1)
     have Ae:=bl5 hb1 (w.heap.size+1+1)
     go_wp2
     refine calm 3 (by kernel_rfl) (by kernel_rfl) fun hG => ?_
     have Ak:=hG (w.heap.size) lto
     have Ah:=hG (w.heap.size+1) lto
     have Aa:=hG (w.heap.size+1+1) lto
     have Ac:=hG (w1.heap.size) lto
     clear hG
     simp only[List.take_succ_cons,List.take_zero,List.drop_succ_cons,List.drop_zero]
     repeat (go_big_quiet_step (first|fail))
     refine wpQuiet_nil ?_
     intro w2 A0
     clear Ak Ah Aa Ac
     have A3:=A0.size
     (try simp at A3)
     have A8:=bl5 A0 (w.heap.size)
     have Af:=bl5 A0 (w.heap.size+1)
     have Ag:=bl5 A0 (w.heap.size+1+1)
     have A7:=bl5 A0 (w1.heap.size)
     go_wp2
     go_roundw
     case rel =>
      refine⟨k,lo+T,hi,X,Y,c,d,by omega,Lib.hid (by rw[H1'.out,← H6.out];omega),HC.out,by omega,by omega,d3,d2,Lib.hid (by rw[H5.out,HS.out,if_pos (by have:=HC.out;omega),show m-lo-T=m-(lo+T)by omega]),?_,rfl,?_,?_,?_,blw,?_⟩
      ·rw[show((lo:Int)+hi)/2=((lo+T:Nat):Int)by have:=H1'.out;omega]
      ·unfold Pt;refine⟨?_,?_,?_,?_⟩<;>simp[go_sem, *]
      ·unfold Pt;refine⟨?_,?_,?_,?_⟩<;>simp[go_sem, *]
      ·unfold Pt;refine⟨?_,?_,?_,?_⟩<;>simp[go_sem, *]
      ·simp;omega
     case measure=>have:=H1'.out;have:=TP.out;simp[intOf];omega
    ·have t6:(m:Int)<((lo:Int)+hi)/2:=by have:=H1'.out;omega
     have HC:=Lib.hid hc
     clear hc
     go_wp2_with fail
     refine(CB.out _).mono ?_
     rintro e w1 ⟨rfl,hb1⟩
     have A2:=hb1.size
     (try simp at A2)
     have A4:=bl5 hb1 (w.heap.size)
     have A6:=bl5 hb1 (w.heap.size+1)
     have Ae:=bl5 hb1 (w.heap.size+1+1)
     go_wp2
     refine calm 3 (by kernel_rfl) (by kernel_rfl) fun hG => ?_
     have Ak:=hG (w.heap.size) lto
     have Ah:=hG (w.heap.size+1) lto
     have Aa:=hG (w.heap.size+1+1) lto
     have Ac:=hG (w1.heap.size) lto
     clear hG
     simp only[List.take_succ_cons,List.take_zero,List.drop_succ_cons,List.drop_zero]
     repeat (go_big_quiet_step (first|fail))
     refine wpQuiet_nil ?_
     intro w2 A0
     clear Ak Ah Aa Ac
     have A3:=A0.size
     (try simp at A3)
     have A8:=bl5 A0 (w.heap.size)
     have Af:=bl5 A0 (w.heap.size+1)
     have Ag:=bl5 A0 (w.heap.size+1+1)
     have A7:=bl5 A0 (w1.heap.size)
     go_wp2
     go_roundw
     case rel =>
      refine⟨k,lo,lo+T,a,b,X,Y,by omega,Lib.hid (by rw[← H6.out]),by omega,by have:=HC.out;omega,by have:=H1'.out;omega,d1,d3,Lib.hid (by rw[H5.out,HS.out,if_neg (by have:=HC.out;omega)]),rfl,?_,?_,?_,?_,blw,?_⟩
      ·rw[show((lo:Int)+hi)/2=((lo+T:Nat):Int)by have:=H1'.out;omega]
      ·unfold Pt;refine⟨?_,?_,?_,?_⟩<;>simp[go_sem, *]
      ·unfold Pt;refine⟨?_,?_,?_,?_⟩<;>simp[go_sem, *]
      ·unfold Pt;refine⟨?_,?_,?_,?_⟩<;>simp[go_sem, *]
      ·simp;omega
     case measure=>have:=H1'.out;have:=TP.out;simp[intOf];omega
set_option maxRecDepth 100000 in
set_option maxHeartbeats 1000000 in
theorem dir_a (m:Int) (p:Nat) (w:World) (h1 : -4611686018427387904≤m) (h2:m≤4611686018427387904) (hp:(p:Int)=m%4194304) (hc:p≤524288) :
  Calls Tryz.prog 230 #[.int .i64 m] w fun e w'=>e = .returned (.agg #[.int .i64 (fstX p),.int .i64 (fstY p)])∧Below w.heap.size w w':=by
 have el:m-4194304*(m/4194304)=p:=by omega
 have b1 : -4611686018427387904-4194304≤4194304*(m/4194304):=by omega
 have b2:4194304*(m/4194304)≤4611686018427387904:=by omega
 have C:=Lib.hid (fun w=>floor_any m 4194304 w (by omega) (by omega) (by omega) (by omega))
 have CF:=Lib.hid (fun w=>first_any p w hc)
 have c1:m-4194304*(m/4194304)<1048576:=by omega
 have c2:m-4194304*(m/4194304)≤524288:=by omega
 have c0:0≤m-4194304*(m/4194304):=by omega
 have EL:=Lib.hid el
 generalize m/4194304=f at *
 generalize fstX p=X at *
 generalize fstY p=Y at *
 clear hp hc el
 go_enter Tryz.func230,Tryz.ntmps230
 go_wp2_with fail
 refine(C.out _).mono ?_
 rintro e w' ⟨rfl,rfl⟩
 go_wp2_with fail
 refine((show∀w,Calls Tryz.prog 252 #[.int .i64 (m-4194304*f)] w _ from by rw[EL.out];exact CF.out) _).mono ?_
 rintro e w1 ⟨rfl,A1⟩
 have A2:=A1.size
 (try simp at A2)
 have A4:=bl5 A1 (w.heap.size)
 go_wp2
 refine bodyPost_ret (by simp[results,Tryz.results230,go_sem, *];first|done|rfl) rfl ?_
 exact⟨rfl,blw⟩
end Go.Proofs.YticobgianbecpaaGreatDoor
namespace Go.Proofs.YticobgianbecpaaGreatDoor
open Go.RowKit
set_option maxHeartbeats 1000000 in
theorem dir_b (m:Int) (p:Nat) (w:World) (h1 : -4611686018427387904≤m) (h2:m≤4611686018427387904) (hp:(p:Int)=m%4194304) (hc:524288<p) (hc2:p<1048576) :
  Calls Tryz.prog 230 #[.int .i64 m] w fun e w'=>e = .returned (.agg #[.int .i64 (fstY (1048576-p)),.int .i64 (fstX (1048576-p))])∧Below w.heap.size w w':=by
 have el:1048576-(m-4194304*(m/4194304))=(1048576-p:Nat):=by omega
 have b1 : -4611686018427387904-4194304≤4194304*(m/4194304):=by omega
 have b2:4194304*(m/4194304)≤4611686018427387904:=by omega
 have C:=Lib.hid (fun w=>floor_any m 4194304 w (by omega) (by omega) (by omega) (by omega))
 have CF:=Lib.hid (fun w=>first_any (1048576-p) w (by omega))
 have c1:m-4194304*(m/4194304)<1048576:=by omega
 have c2:524288<m-4194304*(m/4194304):=by omega
 have EL:=Lib.hid el
 generalize m/4194304=f at *
 generalize fstX (1048576-p)=X at *
 generalize fstY (1048576-p)=Y at *
 clear hp hc el hc2
 go_enter Tryz.func230,Tryz.ntmps230
 go_wp2_with fail
 refine(C.out _).mono ?_
 rintro e w' ⟨rfl,rfl⟩
 go_wp2_with fail
 refine((show∀w,Calls Tryz.prog 252 #[.int .i64 (1048576-(m-4194304*f))] w _ from by rw[EL.out];exact CF.out) _).mono ?_
 rintro e w1 ⟨rfl,A1⟩
 have A2:=A1.size
 (try simp at A2)
 have A4:=bl5 A1 (w.heap.size)
 go_wp2
 refine bodyPost_ret (by simp[results,Tryz.results230,go_sem, *];first|done|rfl) rfl ?_
 exact⟨rfl,blw⟩
set_option maxHeartbeats 1000000 in
theorem dir_c (m X Y:Int) (w:World) (h1 : -4611686018427387904≤m) (h2:m≤4611686018427387904) (hc:1048576≤m-4194304*(m/4194304)) (hc2:m-4194304*(m/4194304)<2097152) (hd:Dsm X Y)
  (H:∀w,Calls Tryz.prog 230 #[.int .i64 (m-4194304*(m/4194304)-1048576)] w fun e w'=>e = .returned (.agg #[.int .i64 X,.int .i64 Y])∧Below w.heap.size w w') :
  Calls Tryz.prog 230 #[.int .i64 m] w fun e w'=>e = .returned (.agg #[.int .i64 (-Y),.int .i64 X])∧Below w.heap.size w w':=by
 have b1 : -4611686018427387904-4194304≤4194304*(m/4194304):=by omega
 have b2:4194304*(m/4194304)≤4611686018427387904:=by omega
 have C:=Lib.hid (fun w=>floor_any m 4194304 w (by omega) (by omega) (by omega) (by omega))
 have CF:=Lib.hid H
 unfold Dsm at hd
 obtain⟨d1,d2,d3,d4⟩:=hd
 have ct:=fun w=>turned_any 1 X Y w (by omega) (by unfold Sm;omega) (by unfold Sm;omega)
 rw[(tu1 X Y).1,(tu1 X Y).2]at ct
 have CT:=Lib.hid ct
 generalize m/4194304=f at *
 clear H ct
 go_enter Tryz.func230,Tryz.ntmps230
 go_wp2_with fail
 refine(C.out _).mono ?_
 rintro e w' ⟨rfl,rfl⟩
 go_wp2_with fail
 refine(CF.out _).mono ?_
 rintro e w1 ⟨rfl,A1⟩
 have A2:=A1.size
 (try simp at A2)
 have A4:=bl5 A1 (w.heap.size)
 go_wp2_with fail
 refine(CT.out _).mono ?_
 rintro e w2 ⟨rfl,A0⟩
 have A3:=A0.size
 (try simp at A3)
 have A8:=bl5 A0 (w.heap.size)
 go_wp2
 refine bodyPost_ret (by simp[results,Tryz.results230,go_sem, *];first|done|rfl) rfl ?_
 exact⟨rfl,blw⟩
set_option maxHeartbeats 1000000 in
theorem dir_d (m X Y:Int) (w:World) (h1 : -4611686018427387904≤m) (h2:m≤4611686018427387904) (hc:2097152≤m-4194304*(m/4194304)) (hd:Dsm X Y)
  (H:∀w,Calls Tryz.prog 230 #[.int .i64 (m-4194304*(m/4194304)-2097152)] w fun e w'=>e = .returned (.agg #[.int .i64 X,.int .i64 Y])∧Below w.heap.size w w') :
  Calls Tryz.prog 230 #[.int .i64 m] w fun e w'=>e = .returned (.agg #[.int .i64 (-X),.int .i64 (-Y)])∧Below w.heap.size w w':=by
 have b0:m-4194304*(m/4194304)<4194304:=by omega
 have b1 : -4611686018427387904-4194304≤4194304*(m/4194304):=by omega
 have b2:4194304*(m/4194304)≤4611686018427387904:=by omega
 have C:=Lib.hid (fun w=>floor_any m 4194304 w (by omega) (by omega) (by omega) (by omega))
 have CF:=Lib.hid H
 unfold Dsm at hd
 obtain⟨d1,d2,d3,d4⟩:=hd
 have ct:=fun w=>turned_any 2 X Y w (by omega) (by unfold Sm;omega) (by unfold Sm;omega)
 rw[(tu2 X Y).1,(tu2 X Y).2]at ct
 have CT:=Lib.hid ct
 generalize m/4194304=f at *
 clear H ct
 go_enter Tryz.func230,Tryz.ntmps230
 go_wp2_with fail
 refine(C.out _).mono ?_
 rintro e w' ⟨rfl,rfl⟩
 go_wp2_with fail
 refine(CF.out _).mono ?_
 rintro e w1 ⟨rfl,A1⟩
 have A2:=A1.size
 (try simp at A2)
 have A4:=bl5 A1 (w.heap.size)
 go_wp2_with fail
 refine(CT.out _).mono ?_
 rintro e w2 ⟨rfl,A0⟩
 have A3:=A0.size
 (try simp at A3)
 have A8:=bl5 A0 (w.heap.size)
 go_wp2
 refine bodyPost_ret (by simp[results,Tryz.results230,go_sem, *];first|done|rfl) rfl ?_
 exact⟨rfl,blw⟩
theorem dir_q (m:Int) (p:Nat) (w:World) (h1 : -4611686018427387904≤m) (h2:m≤4611686018427387904) (hp:(p:Int)=m%4194304) (hc:p<1048576) :
  Calls Tryz.prog 230 #[.int .i64 m] w fun e w'=>e = .returned (.agg #[.int .i64 (d1X p),.int .i64 (d1Y p)])∧Below w.heap.size w w':=by
 unfold d1X d1Y
 split
 ·rename_i h;exact dir_b m p w h1 h2 hp h hc
 ·rename_i h;exact dir_a m p w h1 h2 hp (by omega)
theorem dir_h (m:Int) (p:Nat) (w:World) (h1 : -4611686018427387904≤m) (h2:m≤4611686018427387904) (hp:(p:Int)=m%4194304) (hc:p<2097152) :
  Calls Tryz.prog 230 #[.int .i64 m] w fun e w'=>e = .returned (.agg #[.int .i64 (d2X p),.int .i64 (d2Y p)])∧Below w.heap.size w w':=by
 unfold d2X d2Y
 split
 ·rename_i h
  exact dir_c m _ _ w h1 h2 (by omega) (by omega) (d1_sm _) (fun w=>dir_q _ (p-1048576) w (by omega) (by omega) (by omega) (by omega))
 ·rename_i h;exact dir_q m p w h1 h2 hp (by omega)
theorem dir_any (m:Int) (w:World) (h1 : -4611686018427387904≤m) (h2:m≤4611686018427387904) :
  Calls Tryz.prog 230 #[.int .i64 m] w fun e w'=>e = .returned (.agg #[.int .i64 (dcX m),.int .i64 (dcY m)])∧Below w.heap.size w w':=by
 have hp:(plc m:Int)=m%4194304:=by unfold plc;omega
 unfold dcX dcY d3X d3Y
 have:=plc_lt m
 split
 ·rename_i h
  exact dir_d m _ _ w h1 h2 (by omega) (d2_sm _) (fun w=>dir_h _ (plc m-2097152) w (by omega) (by omega) (by omega) (by omega))
 ·rename_i h;exact dir_h m _ w h1 h2 hp (by omega)
@[irreducible] def arR (lo hi:Int):Int:=if lo=hi∧lo%1048576=0 then 0 else 2 + -(-(11*(hi-(lo+hi)/2))/7)
@[irreducible] def arM (lo hi:Int):Res:=fin (ctX ((lo+hi)/2)) (ctY ((lo+hi)/2)) (arR lo hi) 0
theorem ball_res (a b c:Int) (w:World):Calls Tryz.prog 217 #[.agg #[.int .i64 a,.int .i64 b,.int .i64 c]] w fun e w'=>e = .returned (out (fin a b c 0))∧Below w.heap.size w w':=by
 rw[fin_zero]
 by_cases h:Right a b c
 ·rw[if_pos h];exact ball_yes a b c w h.1 h.2.1 h.2.2
 ·rw[if_neg h];exact ball_no a b c w h
theorem ct_def (l:Int):(2*dcX l+64)/(2*64)=ctX l∧(2*dcY l+64)/(2*64)=ctY l:=by unfold ctX ctY;exact⟨rfl,rfl⟩
set_option maxHeartbeats 2000000 in
theorem arc_zero (l:Int) (w:World) (h1 : -9007199254740992≤l) (h2:l≤9007199254740992) (hz:l%1048576=0) :
  Calls Tryz.prog 186 #[.int .i64 l,.int .i64 l] w fun e w'=>e = .returned (out (arM l l))∧Below w.heap.size w w':=by
 have hm:(l+l)/2=l:=by omega
 have hR:arR l l=0:=by unfold arR;rw[if_pos ⟨rfl,hz⟩]
 unfold arM
 rw[hm,hR]
 have c1:=ct_sm l
 have bs:=dc_sm l
 unfold Dsm at bs
 obtain⟨b1,b2,b3,b4⟩:=bs
 have CF:Hid (∀w,Calls Tryz.prog 110 #[.int .i64 (l+l),.int .i64 2] w fun e w'=>e = .returned (.int .i64 l)∧w'=w):=Lib.hid fun w=>by
  have t:=floor_any (l+l) 2 w (by omega) (by omega) (by omega) (by omega)
  rw[hm]at t;exact t
 have CD:=Lib.hid (fun w=>dir_any l w (by omega) (by omega))
 have CX:Hid (∀w,Calls Tryz.prog 191 #[.int .i64 (dcX l),.int .i64 64] w fun e w'=>e = .returned (.tuple #[.int .i64 (ctX l),.bool (dcX l%64 != 0)])∧Below w.heap.size w w'):=Lib.hid fun w=>by
  have t:=drew_bel (rounded_any (dcX l) 64 w (by omega) (by omega) (by omega) (by omega))
  rw[(ct_def l).1]at t;exact t
 have CY:Hid (∀w,Calls Tryz.prog 191 #[.int .i64 (dcY l),.int .i64 64] w fun e w'=>e = .returned (.tuple #[.int .i64 (ctY l),.bool (dcY l%64 != 0)])∧Below w.heap.size w w'):=Lib.hid fun w=>by
  have t:=drew_bel (rounded_any (dcY l) 64 w (by omega) (by omega) (by omega) (by omega))
  rw[(ct_def l).2]at t;exact t
 have CC:=Lib.hid (fun w=>ceil_any 0 7 w (by omega) (by omega) (by omega) (by omega))
 have CB:=Lib.hid (fun w=>ball_res (ctX l) (ctY l) 0 w)
 have t1:(l==l)=true:=by simp
 have t2:(l.tmod 1048576==0)=true:=by
  have:=tmod_ne l 1048576
  simp only[bne,hz]at this
  simpa using this
 rw[out_quad]at CB ⊢
 clear hz hm hR c1
 generalize fin (ctX l) (ctY l) 0 0=F at *
 generalize ctX l=X at *
 generalize ctY l=Y at *
 generalize (dcX l%64 != 0)=U at *
 generalize (dcY l%64 != 0)=V at *
 generalize dcX l=x at *
 generalize dcY l=y at *
 go_enter Tryz.func186,Tryz.ntmps186
 go_wp2_with fail
 refine(CF.out _).mono ?_
 rintro e w' ⟨rfl,rfl⟩
 go_wp2_with fail
 refine(CD.out _).mono ?_
 rintro e w1 ⟨rfl,A1⟩
 have A2:=A1.size
 (try simp at A2)
 have A4:=bl5 A1 (w.heap.size)
 go_wp2_with fail
 refine(CX.out _).mono ?_
 rintro e w2 ⟨rfl,A0⟩
 have A3:=A0.size
 (try simp at A3)
 have A8:=bl5 A0 (w.heap.size)
 have A7:=bl5 A0 (w1.heap.size)
 go_wp2_with fail
 refine(CY.out _).mono ?_
 rintro e w3 ⟨rfl,A5⟩
 have Ab:=A5.size
 (try simp at Ab)
 have Ai:=bl5 A5 (w.heap.size)
 go_wp2_with fail
 refine(CC.out _).mono ?_
 rintro e w' ⟨rfl,rfl⟩
 go_wp2_with fail
 refine(CB.out _).mono ?_
 rintro e w4 ⟨rfl,A9⟩
 have Ad:=A9.size
 (try simp at Ad)
 have Aj:=bl5 A9 (w.heap.size)
 go_wp2
 refine bodyPost_ret (by simp[results,Tryz.results186,go_sem, *];first|done|rfl) rfl ?_
 exact⟨rfl,blw⟩
set_option maxHeartbeats 2000000 in
theorem arc_lt (l h:Int) (w:World) (h1 : -9007199254740992≤l) (h2:h≤9007199254740992) (hz:l<h) (hlt:h-l≤9007199254740992) :
  Calls Tryz.prog 186 #[.int .i64 l,.int .i64 h] w fun e w'=>e = .returned (out (arM l h))∧Below w.heap.size w w':=by
 obtain⟨m,hm⟩:∃m,(l+h)/2=m:=⟨_,rfl⟩
 have hR:arR l h=2 + -(-(11*(h-m))/7):=by unfold arR;rw[if_neg (by omega),hm]
 unfold arM
 rw[hm,hR]
 have m1:l≤m:=by omega
 have m2:m≤h:=by omega
 have c1:=ct_sm m
 have bs:=dc_sm m
 unfold Dsm at bs
 obtain⟨b1,b2,b3,b4⟩:=bs
 have CF:Hid (∀w,Calls Tryz.prog 110 #[.int .i64 (l+h),.int .i64 2] w fun e w'=>e = .returned (.int .i64 m)∧w'=w):=Lib.hid fun w=>by
  have t:=floor_any (l+h) 2 w (by omega) (by omega) (by omega) (by omega)
  rw[hm]at t;exact t
 have CD:=Lib.hid (fun w=>dir_any m w (by omega) (by omega))
 have CX:Hid (∀w,Calls Tryz.prog 191 #[.int .i64 (dcX m),.int .i64 64] w fun e w'=>e = .returned (.tuple #[.int .i64 (ctX m),.bool (dcX m%64 != 0)])∧Below w.heap.size w w'):=Lib.hid fun w=>by
  have t:=drew_bel (rounded_any (dcX m) 64 w (by omega) (by omega) (by omega) (by omega))
  rw[(ct_def m).1]at t;exact t
 have CY:Hid (∀w,Calls Tryz.prog 191 #[.int .i64 (dcY m),.int .i64 64] w fun e w'=>e = .returned (.tuple #[.int .i64 (ctY m),.bool (dcY m%64 != 0)])∧Below w.heap.size w w'):=Lib.hid fun w=>by
  have t:=drew_bel (rounded_any (dcY m) 64 w (by omega) (by omega) (by omega) (by omega))
  rw[(ct_def m).2]at t;exact t
 have CC:=Lib.hid (fun w=>ceil_any (11*(h-m)) 7 w (by omega) (by omega) (by omega) (by omega))
 have CB:=Lib.hid (fun w=>ball_res (ctX m) (ctY m) (2 + -(-(11*(h-m))/7)) w)
 have k0:0 ≤ -(-(11*(h-m))/7):=by omega
 have k1 : -(-(11*(h-m))/7)≤36028797018963968:=by omega
 have t1:(l==h)=false:=by simp;omega
 rw[out_quad]at CB ⊢
 clear hz hm hR c1 hlt
 generalize fin (ctX m) (ctY m) (2 + -(-(11*(h-m))/7)) 0=F at *
 generalize ctX m=X at *
 generalize ctY m=Y at *
 generalize (dcX m%64 != 0)=U at *
 generalize (dcY m%64 != 0)=V at *
 generalize dcX m=x at *
 generalize dcY m=y at *
 generalize -(-(11*(h-m))/7)=R at *
 go_enter Tryz.func186,Tryz.ntmps186
 go_wp2_with fail
 refine(CF.out _).mono ?_
 rintro e w' ⟨rfl,rfl⟩
 go_wp2_with fail
 refine(CD.out _).mono ?_
 rintro e w1 ⟨rfl,A1⟩
 have A2:=A1.size
 (try simp at A2)
 have A4:=bl5 A1 (w.heap.size)
 go_wp2_with fail
 refine(CX.out _).mono ?_
 rintro e w2 ⟨rfl,A0⟩
 have A3:=A0.size
 (try simp at A3)
 have A8:=bl5 A0 (w.heap.size)
 have A7:=bl5 A0 (w1.heap.size)
 go_wp2_with fail
 refine(CY.out _).mono ?_
 rintro e w3 ⟨rfl,A5⟩
 have Ab:=A5.size
 (try simp at Ab)
 have Ai:=bl5 A5 (w.heap.size)
 go_wp2_with fail
 refine(CC.out _).mono ?_
 rintro e w' ⟨rfl,rfl⟩
 go_wp2_with fail
 refine(CB.out _).mono ?_
 rintro e w4 ⟨rfl,A9⟩
 have Ad:=A9.size
 (try simp at Ad)
 have Aj:=bl5 A9 (w.heap.size)
 go_wp2
 refine bodyPost_ret (by simp[results,Tryz.results186,go_sem, *];first|done|rfl) rfl ?_
 exact⟨rfl,blw⟩
set_option maxHeartbeats 2000000 in
theorem arc_eq (l:Int) (w:World) (h1 : -9007199254740992≤l) (h2:l≤9007199254740992) (hz:¬l%1048576=0) :
  Calls Tryz.prog 186 #[.int .i64 l,.int .i64 l] w fun e w'=>e = .returned (out (arM l l))∧Below w.heap.size w w':=by
 have hm:(l+l)/2=l:=by omega
 have hR:arR l l=2:=by unfold arR;rw[if_neg (fun k=>hz k.2),hm];omega
 unfold arM
 rw[hm,hR]
 have c1:=ct_sm l
 have bs:=dc_sm l
 unfold Dsm at bs
 obtain⟨b1,b2,b3,b4⟩:=bs
 have CF:Hid (∀w,Calls Tryz.prog 110 #[.int .i64 (l+l),.int .i64 2] w fun e w'=>e = .returned (.int .i64 l)∧w'=w):=Lib.hid fun w=>by
  have t:=floor_any (l+l) 2 w (by omega) (by omega) (by omega) (by omega)
  rw[hm]at t;exact t
 have CD:=Lib.hid (fun w=>dir_any l w (by omega) (by omega))
 have CX:Hid (∀w,Calls Tryz.prog 191 #[.int .i64 (dcX l),.int .i64 64] w fun e w'=>e = .returned (.tuple #[.int .i64 (ctX l),.bool (dcX l%64 != 0)])∧Below w.heap.size w w'):=Lib.hid fun w=>by
  have t:=drew_bel (rounded_any (dcX l) 64 w (by omega) (by omega) (by omega) (by omega))
  rw[(ct_def l).1]at t;exact t
 have CY:Hid (∀w,Calls Tryz.prog 191 #[.int .i64 (dcY l),.int .i64 64] w fun e w'=>e = .returned (.tuple #[.int .i64 (ctY l),.bool (dcY l%64 != 0)])∧Below w.heap.size w w'):=Lib.hid fun w=>by
  have t:=drew_bel (rounded_any (dcY l) 64 w (by omega) (by omega) (by omega) (by omega))
  rw[(ct_def l).2]at t;exact t
 have CC:=Lib.hid (fun w=>ceil_any 0 7 w (by omega) (by omega) (by omega) (by omega))
 have CB:=Lib.hid (fun w=>ball_res (ctX l) (ctY l) 2 w)
 have t1:(l==l)=true:=by simp
 have t2:(l.tmod 1048576==0)=false:=by
  have:=tmod_ne l 1048576
  have e:(l%1048576 != 0)=true:=by simpa using hz
  rw[e]at this
  simpa[bne]using this
 rw[out_quad]at CB ⊢
 clear hz hm hR c1
 generalize fin (ctX l) (ctY l) 2 0=F at *
 generalize ctX l=X at *
 generalize ctY l=Y at *
 generalize (dcX l%64 != 0)=U at *
 generalize (dcY l%64 != 0)=V at *
 generalize dcX l=x at *
 generalize dcY l=y at *
 go_enter Tryz.func186,Tryz.ntmps186
 go_wp2_with fail
 refine(CF.out _).mono ?_
 rintro e w' ⟨rfl,rfl⟩
 go_wp2_with fail
 refine(CD.out _).mono ?_
 rintro e w1 ⟨rfl,A1⟩
 have A2:=A1.size
 (try simp at A2)
 have A4:=bl5 A1 (w.heap.size)
 go_wp2_with fail
 refine(CX.out _).mono ?_
 rintro e w2 ⟨rfl,A0⟩
 have A3:=A0.size
 (try simp at A3)
 have A8:=bl5 A0 (w.heap.size)
 have A7:=bl5 A0 (w1.heap.size)
 go_wp2_with fail
 refine(CY.out _).mono ?_
 rintro e w3 ⟨rfl,A5⟩
 have Ab:=A5.size
 (try simp at Ab)
 have Ai:=bl5 A5 (w.heap.size)
 go_wp2_with fail
 refine(CC.out _).mono ?_
 rintro e w' ⟨rfl,rfl⟩
 go_wp2_with fail
 refine(CB.out _).mono ?_
 rintro e w4 ⟨rfl,A9⟩
 have Ad:=A9.size
 (try simp at Ad)
 have Aj:=bl5 A9 (w.heap.size)
 go_wp2
 refine bodyPost_ret (by simp[results,Tryz.results186,go_sem, *];first|done|rfl) rfl ?_
 exact⟨rfl,blw⟩
theorem arc_any (l h:Int) (w:World) (h1 : -9007199254740992≤l) (h2:h≤9007199254740992) (h3:l≤h) (h4:h-l≤9007199254740992) :
  Calls Tryz.prog 186 #[.int .i64 l,.int .i64 h] w fun e w'=>e = .returned (out (arM l h))∧Below w.heap.size w w':=by
 rcases Int.lt_or_le l h with c|c
 ·exact arc_lt l h w h1 h2 c h4
 ·obtain rfl:l=h:=by omega
  by_cases hz:l%1048576=0
  ·exact arc_zero l w h1 h2 hz
  ·exact arc_eq l w h1 h2 hz
end Go.Proofs.YticobgianbecpaaGreatDoor
namespace Go.Proofs.YticobgianbecpaaGreatDoor
open Go.RowKit
set_option maxHeartbeats 1000000 in
theorem parts_range (lo hi:Int) (w:World) (h:lo < -1099511627776∨1099511627776<lo∨1099511627776<hi∨hi < -1099511627776) :
  Calls Tryz.prog 185 #[.agg #[.int .i64 lo,.int .i64 hi],.int .i64 (-1099511627776)] w fun e w'=>e = .returned (.int .i64 2)∧Below w.heap.size w w':=by
 by_cases c1 : -1099511627776≤lo∧lo≤1099511627776
 ·have a1:(decide ((-1099511627776:Int)≤lo)&&decide (lo≤1099511627776))=true:=by simp;omega
  by_cases c2:1099511627776<hi
  ·clear h
   go_enter Tryz.func185,Tryz.ntmps185
   go_wp2_with fail
   refine(within_any _ _ _ _).mono ?_
   rintro e w' ⟨rfl,rfl⟩
   rw[a1]
   go_wp2
   go_ret
   exact⟨rfl,blw⟩
  ·have c3:hi < -1099511627776:=by omega
   have c4:hi≤1099511627776:=by omega
   clear h c2
   go_enter Tryz.func185,Tryz.ntmps185
   go_wp2_with fail
   refine(within_any _ _ _ _).mono ?_
   rintro e w' ⟨rfl,rfl⟩
   rw[a1]
   go_wp2
   go_ret
   exact⟨rfl,blw⟩
 ·have a1:(decide ((-1099511627776:Int)≤lo)&&decide (lo≤1099511627776))=false:=by rw[Bool.eq_false_iff];simp;omega
  clear h c1
  go_enter Tryz.func185,Tryz.ntmps185
  go_wp2_with fail
  refine(within_any _ _ _ _).mono ?_
  rintro e w' ⟨rfl,rfl⟩
  rw[a1]
  go_wp2
  go_ret
  exact⟨rfl,blw⟩
set_option maxHeartbeats 1000000 in
theorem parts_order (lo hi:Int) (w:World) (h0 : -1099511627776≤hi) (h1:lo≤1099511627776) (h2:hi<lo) :
  Calls Tryz.prog 185 #[.agg #[.int .i64 lo,.int .i64 hi],.int .i64 (-1099511627776)] w fun e w'=>e = .returned (.int .i64 10)∧Below w.heap.size w w':=by
 have a1:(decide ((-1099511627776:Int)≤lo)&&decide (lo≤1099511627776))=true:=by simp;omega
 go_enter Tryz.func185,Tryz.ntmps185
 go_wp2_with fail
 refine(within_any _ _ _ _).mono ?_
 rintro e w' ⟨rfl,rfl⟩
 rw[a1]
 go_wp2
 go_ret
 exact⟨rfl,blw⟩
def InParts (lo hi:Int):Prop := -1099511627776≤lo∧lo≤1099511627776 ∧ -1099511627776≤hi∧hi≤1099511627776
instance (lo hi:Int):Decidable (InParts lo hi):=by unfold InParts;infer_instance
@[irreducible] def arcM (lo hi:Int):Res:=if InParts lo hi then(if lo≤hi then arM lo hi else .bad 10)else .bad 2
set_option maxHeartbeats 1000000 in
theorem Arc_any (lo hi:Int) (w:World) :
  Calls Tryz.prog 125 #[.agg #[.int .i64 lo,.int .i64 hi]] w fun e w'=>e = .returned (out (arcM lo hi))∧Below w.heap.size w w':=by
 unfold arcM
 by_cases h:InParts lo hi
 ·rw[if_pos h]
  unfold InParts at h
  by_cases h2:lo≤hi
  ·rw[if_pos h2,out_quad]
   have ca:=fun w=>arc_any lo hi w (by omega) (by omega) h2 (by omega)
   rw[out_quad]at ca
   have CA:=Lib.hid ca
   clear ca
   have CP:=Lib.hid (fun w=>checkParts_ok lo hi (-1099511627776) w (by omega) h2 (by omega))
   go_enter Tryz.func125,Tryz.ntmps125
   go_wp2_with fail
   refine(CP.out _).mono ?_
   rintro e w1 ⟨rfl,A1⟩
   have A2:=A1.size
   (try simp at A2)
   have A4:=bl5 A1 (w.heap.size)
   have A6:=bl5 A1 (w.heap.size+1)
   go_wp2_with fail
   refine(CA.out _).mono ?_
   rintro e w2 ⟨rfl,A0⟩
   have A3:=A0.size
   (try simp at A3)
   have Af:=bl5 A0 (w.heap.size+1)
   go_wp2
   refine bodyPost_ret (by simp[results,Tryz.results125,go_sem, *];first|done|rfl) rfl ?_
   exact⟨rfl,blw⟩
  ·rw[if_neg h2,out_quad]
   have CP:=Lib.hid (fun w=>parts_order lo hi w (by omega) (by omega) (by omega))
   obtain⟨q1,q2,q3,q4⟩:=quad_bad 10
   rw[q1,q2,q3,q4]
   have z:=fl_zero
   clear q1 q2 q3 q4
   go_enter Tryz.func125,Tryz.ntmps125
   go_wp2_with fail
   refine(CP.out _).mono ?_
   rintro e w1 ⟨rfl,A1⟩
   have A2:=A1.size
   (try simp at A2)
   have A6:=bl5 A1 (w.heap.size+1)
   go_wp2
   refine bodyPost_ret (by simp[results,Tryz.results125,go_sem, *];first|done|rfl) rfl ?_
   exact⟨rfl,blw⟩
 ·rw[if_neg h,out_quad]
  have CP:=Lib.hid (fun w=>parts_range lo hi w (by unfold InParts at h;omega))
  obtain⟨q1,q2,q3,q4⟩:=quad_bad 2
  rw[q1,q2,q3,q4]
  have z:=fl_zero
  clear q1 q2 q3 q4 h
  go_enter Tryz.func125,Tryz.ntmps125
  go_wp2_with fail
  refine(CP.out _).mono ?_
  rintro e w1 ⟨rfl,A1⟩
  have A2:=A1.size
  (try simp at A2)
  have A6:=bl5 A1 (w.heap.size+1)
  go_wp2
  refine bodyPost_ret (by simp[results,Tryz.results125,go_sem, *];first|done|rfl) rfl ?_
  exact⟨rfl,blw⟩
def InFrac (num den:Int):Prop:=(-1000000000≤num∧num≤1000000000)∧1≤den∧den≤1000000000
instance (num den:Int):Decidable (InFrac num den):=by unfold InFrac;infer_instance
end Go.Proofs.YticobgianbecpaaGreatDoor
