/- Joined: RefArc RefArc2 RefArc3. -/
import Derived.Test.YtnljkhlmdacfaaaGreatDoorKArc
import Derived.Test.YtnljkhlmdacfaaaGreatDoorKLaw
import Derived.RegionTactic
import Derived.ChangeAlike
import Derived.BigRegion
namespace Go.Proofs.YtnljkhlmdacfaaaGreatDoor
open Go.RowKit
set_option maxRecDepth 100000 in
set_option maxHeartbeats 4000000 in
theorem rdir_a (m:Int) (p:Nat) (w:World) (h1 : -4611686018427387904≤m) (h2:m≤4611686018427387904) (hp:(p:Int)=m%4194304) (hc:p≤524288) :
  Calls Tryz.prog 264 #[.int .i64 m] w fun e w'=>e = .returned (.agg #[.int .i64 (fstX p),.int .i64 (fstY p)])∧Below w.heap.size w w':=by
 have CM:Hid (∀w,Calls Tryz.prog 98 #[.int .i64 m,.int .i64 4194304] w fun e w'=>e = .returned (.int .i64 p)∧w'=w):=Lib.hid fun w=>by
  have t:=bMod_any m 4194304 w (by omega) (by omega) (by omega) (by omega)
  rw[← hp]at t;exact t
 have CR:Hid (∀w,Calls Tryz.prog 219 #[.int .i64 2251799813685248] w fun e w'=>e = .returned (.int .i64 47453132)∧w'=w):=Lib.hid fun w=>by
  have t:=bRoot_any 2251799813685248 w (by omega) (by omega)
  rw[rt_eighth]at t;exact t
 clear h1 h2 hp
 have c1:decide ((2097152:Int)≤p)=false:=by simp;omega
 have c2:decide ((1048576:Int)≤p)=false:=by simp;omega
 have c3:decide ((524288:Int)<p)=false:=by simp;omega
 by_cases h0:p=0
 ·subst h0
  have HF:Hid (fstX 0=67108864∧fstY 0=0):=Lib.hid fst_zero
  rw[HF.out.1,HF.out.2]
  go_enter Tryz.func264,Tryz.ntmps264
  go_wp2_with fail
  refine(CM.out _).mono ?_
  rintro e w' ⟨rfl,rfl⟩
  go_wp2_with fail
  refine(CR.out _).mono ?_
  rintro e w' ⟨rfl,rfl⟩
  go_wp2
  refine bodyPost_ret (by simp[results,Tryz.results264,go_sem, *];first|done|rfl) rfl ?_
  exact⟨rfl,blw⟩
 ·have t0:((p:Int)==0)=false:=by simp;omega
  have H0:=Lib.hid h0
  clear h0
  go_enter Tryz.func264,Tryz.ntmps264
  go_wp2_with fail
  refine(CM.out _).mono ?_
  rintro e w' ⟨rfl,rfl⟩
  go_wp2_with fail
  refine(CR.out _).mono ?_
  rintro e w' ⟨rfl,rfl⟩
  go_wp2_with fail
  clear c1 c2 c3 t0
  go_loopw [7,8] (fun s t wr=>∃(k lo hi:Nat) (a b c d:Int),k≤19∧Hid (hi=lo+2^k)∧lo<p∧p≤hi∧hi≤524288∧Dirn a b∧Dirn c d∧Hid (dirF 19 p 67108864 0 47453132 47453132=dirF k (p-lo) a b c d) ∧
   s = .int .i64 lo∧t = .int .i64 hi∧Pt wr (w.heap.size+1) a b∧Pt wr (w.heap.size+1+1) c d∧Pt wr w.heap.size 0 0∧Below w.heap.size w wr∧w.heap.size+1+1<wr.heap.size) (fun s t _=>(intOf t).toNat-(intOf s).toNat)
  case atStart =>
   have:=H0.out
   refine⟨19,0,524288,_,_,_,_,by omega,Lib.hid rfl,by omega,by omega,by omega,dirn_a,dirn_b,Lib.hid rfl,rfl,rfl,?_,?_,?_,blw,by simp⟩<;>(unfold Pt;simp[go_sem])
  case round =>
   clear H0
   obtain⟨k,lo,hi,a,b,c,d,hk,H1,h2,h3,h4,d1,d2,H5,rfl,rfl,p1,p2,p3,hb,hsz⟩:=hrel
   unfold Pt at p1 p2 p3
   obtain⟨p10,p11,p12,p13⟩:=p1
   obtain⟨p20,p21,p22,p23⟩:=p2
   obtain⟨p30,p31,p32,p33⟩:=p3
   have q1:w.heap.size<wr.heap.size:=by omega
   have q2:w.heap.size+1<wr.heap.size:=by omega
   by_cases e2:p=hi
   ·have HF:Hid ((fstX p,fstY p)=(c,d)):=Lib.hid (by unfold fstX fstY;rw[H5.out,show p-lo=2^k by rw[e2,H1.out];exact Nat.add_sub_cancel_left _ _,dirF_hi])
    have t3:((p:Int) != (hi:Int))=false:=by simp[e2]
    clear e2 H5 H1
    go_wp2
    refine bodyPost_ret (v := .agg #[.int .i64 c,.int .i64 d]) (by simp[results,Tryz.results264,go_sem, *]) rfl ⟨?_,blw⟩
    have:=HF.out
    simp only[Prod.mk.injEq]at this
    rw[this.1,this.2]
   ·obtain⟨k,rfl⟩:∃k',k=k'+1:=by
     rcases k with _|k
     ·have:=H1.out;simp at this;omega
     ·exact⟨k,rfl⟩
    have hT0:2^(k+1)=2^k+2^k:=by rw[Nat.pow_succ];omega
    have hTp:0<2^k:=Nat.two_pow_pos k
    have HS:=Lib.hid (dirF_step k (p-lo) a b c d)
    have⟨f1,f2,f3,f4,f5,f6,f7,f8,f9⟩:=bw_facts d1 d2
    have r1:1≤bwR a b c d:=Int.le_trans (by decide) (Int.le_trans f1 f2)
    have r2:¬bwR a b c d=0:=fun k=>by rw[k]at r1;exact absurd r1 (by decide)
    have r3:(bwR a b c d==0)=false:=by rw[beq_eq_false_iff_ne];exact r2
    have hR:bwR a b c d=rt ((a+c)*(a+c)+(b+d)*(b+d)):=by unfold bwR;rfl
    have cr:=fun w=>bRoot_any ((a+c)*(a+c)+(b+d)*(b+d)) w (by omega) (by omega)
    rw[← hR]at cr
    have CR2:=Lib.hid cr
    have D1:=Lib.hid d1
    have D2:=Lib.hid d2
    have d3:=bw_dirn d1 d2
    have D3:=Lib.hid d3
    have qq:0≤(a+c)*(a+c)∧(a+c)*(a+c)≤36028797018963968∧0≤(b+d)*(b+d)∧(b+d)*(b+d)≤36028797018963968:=by
     have:=sq_nonneg (a+c);have:=sq_nonneg (b+d);omega
    obtain⟨q3,q4,q5,q6⟩:=qq
    have eX:((a+c)*67108864).tdiv (bwR a b c d)=bwX a b c d:=by unfold bwX;exact Int.tdiv_eq_ediv_of_nonneg f6
    have eY:((b+d)*67108864).tdiv (bwR a b c d)=bwY a b c d:=by unfold bwY;exact Int.tdiv_eq_ediv_of_nonneg f8
    have wX:IntKind.i64.wrap ((a+c)*67108864)=(a+c)*67108864:=IntWalk.i64_in _ (by omega)
    have wY:IntKind.i64.wrap ((b+d)*67108864)=(b+d)*67108864:=IntWalk.i64_in _ (by omega)
    have wA:IntKind.i64.wrap (a+c)=a+c:=IntWalk.i64_in _ (by omega)
    have wB:IntKind.i64.wrap (b+d)=b+d:=IntWalk.i64_in _ (by omega)
    unfold Dirn at d1 d2 d3
    have vX:IntKind.i64.wrap (bwX a b c d)=bwX a b c d:=IntWalk.i64_in _ (by omega)
    have vY:IntKind.i64.wrap (bwY a b c d)=bwY a b c d:=IntWalk.i64_in _ (by omega)
    have H1':Hid (hi=lo+(2^k+2^k)):=Lib.hid (by rw[← hT0];exact H1.out)
    obtain⟨T,hT⟩:∃T:Nat,T=2^k:=⟨_,rfl⟩
    have H6:=Lib.hid hT
    rw[← hT]at H1' HS hTp
    clear hT hT0 H1 cr hR d1 d2 d3
    generalize bwX a b c d=X at *
    generalize bwY a b c d=Y at *
    generalize bwR a b c d=R at *
    have t3:((p:Int) != (hi:Int))=true:=by simp;omega
    have t4:(lo:Int)<p:=by omega
    have t5:(p:Int)<hi:=by omega
    have E2:=Lib.hid e2
    have TP:=Lib.hid hTp
    clear e2 hTp
    go_wp2_with fail
    refine calm_all (by kernel_rfl) (by kernel_rfl) fun hG => ?_
    have Aa:=hG (w.heap.size) lto
    have A5:=hG (w.heap.size+1) lto
    have A6:=hG (w.heap.size+1+1) lto
    clear hG
    repeat (go_big_quiet_step (first|fail))
    refine wpQuiet_nil ?_
    intro w1 A0
    clear Aa A5 A6
    have A1:=A0.size
    (try simp at A1)
    have A3:=bl5 A0 (w.heap.size)
    have A7:=bl5 A0 (w.heap.size+1)
    have Ah:=bl5 A0 (w.heap.size+1+1)
    go_wp2_with fail
    refine(CR2.out _).mono ?_
    rintro e w1 ⟨rfl,rfl⟩
    go_wp2_with fail
    go_region
    have hmid:Hid (((lo:Int)+hi)/2=((lo+T:Nat):Int)):=Lib.hid (by have:=H1'.out;omega)
    rcases Nat.lt_trichotomy p (lo+T)with hc2|hc2|hc2
    ·have t6:(((lo:Int)+hi)/2==(p:Int))=false:=by rw[hmid.out];simp;omega
     have t7:(p:Int)≤((lo:Int)+hi)/2:=by rw[hmid.out];omega
     have HC:=Lib.hid hc2
     clear hc2
     go_wp2_with fail
     refine calm 3 (by kernel_rfl) (by kernel_rfl) fun hG => ?_
     have Aa:=hG (w.heap.size) lto
     have A5:=hG (w.heap.size+1) lto
     have A6:=hG (w.heap.size+1+1) lto
     have Ab:=hG (w1.heap.size) lto
     clear hG
     simp only[List.take_succ_cons,List.take_zero,List.drop_succ_cons,List.drop_zero]
     repeat (go_big_quiet_step (first|fail))
     refine wpQuiet_nil ?_
     intro w3 A2
     clear Aa A5 A6 Ab
     have Ac:=A2.size
     (try simp at Ac)
     have Ag:=bl5 A2 (w.heap.size)
     have Ad:=bl5 A2 (w.heap.size+1)
     have Ae:=bl5 A2 (w.heap.size+1+1)
     have Af:=bl5 A2 (w1.heap.size)
     go_wp2
     go_roundw
     case rel =>
      refine⟨k,lo,lo+T,a,b,X,Y,by omega,Lib.hid (by rw[← H6.out]),by omega,by have:=HC.out;omega,by have:=H1'.out;omega,D1.out,D3.out,Lib.hid (by rw[H5.out,HS.out,if_neg (by have:=HC.out;omega)]),rfl,?_,?_,?_,?_,blw,?_⟩
      ·rw[hmid.out]
      ·unfold Pt;refine⟨?_,?_,?_,?_⟩<;>simp[go_sem, *]
      ·unfold Pt;refine⟨?_,?_,?_,?_⟩<;>simp[go_sem, *]
      ·unfold Pt;refine⟨?_,?_,?_,?_⟩<;>simp[go_sem, *]
      ·simp;omega
     case measure=>have:=H1'.out;have:=TP.out;simp[intOf];omega
    ·have t6:(((lo:Int)+hi)/2==(p:Int))=true:=by rw[hmid.out];simp;omega
     have HF:Hid ((fstX p,fstY p)=(X,Y)):=Lib.hid (by unfold fstX fstY;rw[H5.out,HS.out,if_pos (by omega),show p-lo-T=0 by omega,dirF_lo])
     clear hc2 hmid
     go_wp2
     refine bodyPost_ret (v := .agg #[.int .i64 X,.int .i64 Y]) (by simp[results,Tryz.results264,go_sem, *]) rfl ⟨?_,blw⟩
     have:=HF.out
     simp only[Prod.mk.injEq]at this
     rw[this.1,this.2]
    ·have t6:(((lo:Int)+hi)/2==(p:Int))=false:=by rw[hmid.out];simp;omega
     have t7:((lo:Int)+hi)/2<(p:Int):=by rw[hmid.out];omega
     have HC:=Lib.hid hc2
     clear hc2
     go_wp2_with fail
     refine calm 3 (by kernel_rfl) (by kernel_rfl) fun hG => ?_
     have Aa:=hG (w.heap.size) lto
     have A5:=hG (w.heap.size+1) lto
     have A6:=hG (w.heap.size+1+1) lto
     have Ab:=hG (w1.heap.size) lto
     clear hG
     simp only[List.take_succ_cons,List.take_zero,List.drop_succ_cons,List.drop_zero]
     repeat (go_big_quiet_step (first|fail))
     refine wpQuiet_nil ?_
     intro w3 A2
     clear Aa A5 A6 Ab
     have Ac:=A2.size
     (try simp at Ac)
     have Ag:=bl5 A2 (w.heap.size)
     have Ad:=bl5 A2 (w.heap.size+1)
     have Ae:=bl5 A2 (w.heap.size+1+1)
     have Af:=bl5 A2 (w1.heap.size)
     go_wp2
     go_roundw
     case rel =>
      refine⟨k,lo+T,hi,X,Y,c,d,by omega,Lib.hid (by rw[H1'.out,← H6.out];omega),HC.out,by omega,by omega,D3.out,D2.out,Lib.hid (by rw[H5.out,HS.out,if_pos (by have:=HC.out;omega),show p-lo-T=p-(lo+T)by omega]),?_,rfl,?_,?_,?_,blw,?_⟩
      ·rw[hmid.out]
      ·unfold Pt;refine⟨?_,?_,?_,?_⟩<;>simp[go_sem, *]
      ·unfold Pt;refine⟨?_,?_,?_,?_⟩<;>simp[go_sem, *]
      ·unfold Pt;refine⟨?_,?_,?_,?_⟩<;>simp[go_sem, *]
      ·simp;omega
     case measure=>have:=H1'.out;have:=TP.out;simp[intOf];omega
end Go.Proofs.YtnljkhlmdacfaaaGreatDoor
namespace Go.Proofs.YtnljkhlmdacfaaaGreatDoor
open Go.RowKit
theorem pMod (m:Int) (p:Nat) (h1 : -4611686018427387904≤m) (h2:m≤4611686018427387904) (hp:(p:Int)=m%4194304) :
  Hid (∀w,Calls Tryz.prog 98 #[.int .i64 m,.int .i64 4194304] w fun e w'=>e = .returned (.int .i64 p)∧w'=w):=Lib.hid fun w=>by
 have t:=bMod_any m 4194304 w (by omega) (by omega) (by omega) (by omega)
 rw[← hp]at t;exact t
set_option maxHeartbeats 1000000 in
theorem rdir_b (m:Int) (p:Nat) (w:World) (h1 : -4611686018427387904≤m) (h2:m≤4611686018427387904) (hp:(p:Int)=m%4194304) (hc:524288<p) (hc2:p<1048576) :
  Calls Tryz.prog 264 #[.int .i64 m] w fun e w'=>e = .returned (.agg #[.int .i64 (fstY (1048576-p)),.int .i64 (fstX (1048576-p))])∧Below w.heap.size w w':=by
 have CM:=pMod m p h1 h2 hp
 have cd:=fun w=>rdir_a (1048576-p) (1048576-p) w (by omega) (by omega) (by omega) (by omega)
 have CD:=Lib.hid cd
 have c1:decide ((2097152:Int)≤p)=false:=by simp;omega
 have c2:decide ((1048576:Int)≤p)=false:=by simp;omega
 have c3:decide ((524288:Int)<p)=true:=by simp;omega
 have c4:(p:Int)<1048576:=by omega
 have c5:(0:Int)≤p:=by omega
 clear cd h1 h2 hp hc hc2
 generalize fstX (1048576-p)=X at *
 generalize fstY (1048576-p)=Y at *
 go_enter Tryz.func264,Tryz.ntmps264
 go_wp2_with fail
 refine(CM.out _).mono ?_
 rintro e w' ⟨rfl,rfl⟩
 go_wp2_with fail
 refine(CD.out _).mono ?_
 rintro e w1 ⟨rfl,A0⟩
 have A1:=A0.size
 (try simp at A1)
 have A3:=bl5 A0 (w.heap.size)
 go_wp2
 refine bodyPost_ret (by simp[results,Tryz.results264,go_sem, *];first|done|rfl) rfl ?_
 exact⟨rfl,blw⟩
set_option maxHeartbeats 1000000 in
theorem rdir_c (m X Y:Int) (p:Nat) (w:World) (h1 : -4611686018427387904≤m) (h2:m≤4611686018427387904) (hp:(p:Int)=m%4194304) (hc:1048576≤p) (hc2:p<2097152) (hd:Dsm X Y)
  (H:∀w,Calls Tryz.prog 264 #[.int .i64 ((p:Int)-1048576)] w fun e w'=>e = .returned (.agg #[.int .i64 X,.int .i64 Y])∧Below w.heap.size w w') :
  Calls Tryz.prog 264 #[.int .i64 m] w fun e w'=>e = .returned (.agg #[.int .i64 (-Y),.int .i64 X])∧Below w.heap.size w w':=by
 have CM:=pMod m p h1 h2 hp
 have CD:=Lib.hid H
 have c1:decide ((2097152:Int)≤p)=false:=by simp;omega
 have c2:decide ((1048576:Int)≤p)=true:=by simp;omega
 have c4:(p:Int)<2097152:=by omega
 have c5:(0:Int)≤p:=by omega
 unfold Dsm at hd
 obtain⟨d1,d2,d3,d4⟩:=hd
 clear H h1 h2 hp hc hc2
 go_enter Tryz.func264,Tryz.ntmps264
 go_wp2_with fail
 refine(CM.out _).mono ?_
 rintro e w' ⟨rfl,rfl⟩
 go_wp2_with fail
 refine(CD.out _).mono ?_
 rintro e w1 ⟨rfl,A0⟩
 have A1:=A0.size
 (try simp at A1)
 have A3:=bl5 A0 (w.heap.size)
 go_wp2
 refine bodyPost_ret (by simp[results,Tryz.results264,go_sem, *];first|done|rfl) rfl ?_
 exact⟨rfl,blw⟩
set_option maxHeartbeats 1000000 in
theorem rdir_d (m X Y:Int) (p:Nat) (w:World) (h1 : -4611686018427387904≤m) (h2:m≤4611686018427387904) (hp:(p:Int)=m%4194304) (hc:2097152≤p) (hd:Dsm X Y)
  (H:∀w,Calls Tryz.prog 264 #[.int .i64 ((p:Int)-2097152)] w fun e w'=>e = .returned (.agg #[.int .i64 X,.int .i64 Y])∧Below w.heap.size w w') :
  Calls Tryz.prog 264 #[.int .i64 m] w fun e w'=>e = .returned (.agg #[.int .i64 (-X),.int .i64 (-Y)])∧Below w.heap.size w w':=by
 have CM:=pMod m p h1 h2 hp
 have CD:=Lib.hid H
 have c1:decide ((2097152:Int)≤p)=true:=by simp;omega
 have c4:(p:Int)<4194304:=by omega
 have c5:(0:Int)≤p:=by omega
 unfold Dsm at hd
 obtain⟨d1,d2,d3,d4⟩:=hd
 clear H h1 h2 hp hc
 go_enter Tryz.func264,Tryz.ntmps264
 go_wp2_with fail
 refine(CM.out _).mono ?_
 rintro e w' ⟨rfl,rfl⟩
 go_wp2_with fail
 refine(CD.out _).mono ?_
 rintro e w1 ⟨rfl,A0⟩
 have A1:=A0.size
 (try simp at A1)
 have A3:=bl5 A0 (w.heap.size)
 go_wp2
 refine bodyPost_ret (by simp[results,Tryz.results264,go_sem, *];first|done|rfl) rfl ?_
 exact⟨rfl,blw⟩
theorem rdir_q (m:Int) (p:Nat) (w:World) (h1 : -4611686018427387904≤m) (h2:m≤4611686018427387904) (hp:(p:Int)=m%4194304) (hc:p<1048576) :
  Calls Tryz.prog 264 #[.int .i64 m] w fun e w'=>e = .returned (.agg #[.int .i64 (d1X p),.int .i64 (d1Y p)])∧Below w.heap.size w w':=by
 unfold d1X d1Y
 split
 ·rename_i h;exact rdir_b m p w h1 h2 hp h hc
 ·rename_i h;exact rdir_a m p w h1 h2 hp (by omega)
theorem rdir_h (m:Int) (p:Nat) (w:World) (h1 : -4611686018427387904≤m) (h2:m≤4611686018427387904) (hp:(p:Int)=m%4194304) (hc:p<2097152) :
  Calls Tryz.prog 264 #[.int .i64 m] w fun e w'=>e = .returned (.agg #[.int .i64 (d2X p),.int .i64 (d2Y p)])∧Below w.heap.size w w':=by
 unfold d2X d2Y
 split
 ·rename_i h
  exact rdir_c m _ _ p w h1 h2 hp h hc (d1_sm _) (fun w=>rdir_q _ (p-1048576) w (by omega) (by omega) (by omega) (by omega))
 ·rename_i h;exact rdir_q m p w h1 h2 hp (by omega)
theorem rdir_any (m:Int) (w:World) (h1 : -4611686018427387904≤m) (h2:m≤4611686018427387904) :
  Calls Tryz.prog 264 #[.int .i64 m] w fun e w'=>e = .returned (.agg #[.int .i64 (dcX m),.int .i64 (dcY m)])∧Below w.heap.size w w':=by
 have hp:(plc m:Int)=m%4194304:=by unfold plc;omega
 unfold dcX dcY d3X d3Y
 have:=plc_lt m
 split
 ·rename_i h
  exact rdir_d m _ _ (plc m) w h1 h2 hp h (d2_sm _) (fun w=>rdir_h _ (plc m-2097152) w (by omega) (by omega) (by omega) (by omega))
 ·rename_i h;exact rdir_h m _ w h1 h2 hp (by omega)
end Go.Proofs.YtnljkhlmdacfaaaGreatDoor
namespace Go.Proofs.YtnljkhlmdacfaaaGreatDoor
open Go.RowKit
theorem cut40 {x:Int} (h : -1099511627776≤x∧x≤1099511627776):(decide ((-1099511627776:Int)≤x)&&decide (x≤1099511627776))=true:=by simp;exact h
theorem cut40n {x:Int} (h:¬(-1099511627776≤x∧x≤1099511627776)):(decide ((-1099511627776:Int)≤x)&&decide (x≤1099511627776))=false:=by rw[Bool.eq_false_iff];simp;omega
set_option maxHeartbeats 2000000 in
theorem rArc_lt (l h:Int) (w:World) (hin:InParts l h) (hz:l<h) :
  Calls Tryz.prog 230 #[.agg #[.int .i64 l,.int .i64 h]] w fun e w'=>e = .returned (outR (arM l h))∧Below w.heap.size w w':=by
 unfold InParts at hin
 obtain⟨m,hm⟩:∃m,(l+h)/2=m:=⟨_,rfl⟩
 have hR:arR l h=2 + -(-(11*(h-m))/7):=by unfold arR;rw[if_neg (by omega),hm]
 unfold arM
 rw[hm,hR]
 have m1:l≤m:=by omega
 have m2:m≤h:=by omega
 have bs:=dc_sm m
 unfold Dsm at bs
 obtain⟨b1,b2,b3,b4⟩:=bs
 have a1:=cut40 (x:=l) (by omega)
 have a2:=cut40 (x:=h) (by omega)
 have CF:Hid (∀w,Calls Tryz.prog 87 #[.int .i64 (l+h),.int .i64 2] w fun e w'=>e = .returned (.int .i64 m)∧w'=w):=Lib.hid fun w=>by
  have t:=bFloor_any (l+h) 2 w (by omega) (by omega) (by omega) (by omega)
  rw[hm]at t;exact t
 have CD:=Lib.hid (fun w=>rdir_any m w (by omega) (by omega))
 have CX:Hid (∀w,Calls Tryz.prog 238 #[.int .i64 (dcX m),.int .i64 64] w fun e w'=>e = .returned (.tuple #[.int .i64 (ctX m),.bool (dcX m%64 != 0)])∧w'=w):=Lib.hid fun w=>by
  have t:=bRounded_any (dcX m) 64 w (by omega) (by omega) (by omega) (by omega)
  rw[(ct_def m).1]at t;exact t
 have CY:Hid (∀w,Calls Tryz.prog 238 #[.int .i64 (dcY m),.int .i64 64] w fun e w'=>e = .returned (.tuple #[.int .i64 (ctY m),.bool (dcY m%64 != 0)])∧w'=w):=Lib.hid fun w=>by
  have t:=bRounded_any (dcY m) 64 w (by omega) (by omega) (by omega) (by omega)
  rw[(ct_def m).2]at t;exact t
 have CC:=Lib.hid (fun w=>bCeil_any (11*(h-m)) 7 w (by omega) (by omega) (by omega) (by omega))
 have cb:=fun w=>Checked_any (ctX m) (ctY m) (2 + -(-(11*(h-m))/7)) w
 rw[outR_quad]at cb ⊢
 have CB:=Lib.hid cb
 have k0:0 ≤ -(-(11*(h-m))/7):=by omega
 have k1 : -(-(11*(h-m))/7)≤36028797018963968:=by omega
 have t1:(l==h)=false:=by simp;omega
 have t2:l≤h:=by omega
 clear hR cb
 generalize fin (ctX m) (ctY m) (2 + -(-(11*(h-m))/7)) 0=F at *
 generalize ctX m=X at *
 generalize ctY m=Y at *
 generalize (dcX m%64 != 0)=U at *
 generalize (dcY m%64 != 0)=V at *
 generalize dcX m=x at *
 generalize dcY m=y at *
 generalize -(-(11*(h-m))/7)=R at *
 clear hz hm
 go_enter Tryz.func230,Tryz.ntmps230
 go_wp2_with fail
 refine(bWithin_any _ _ _ _).mono ?_
 rintro e w' ⟨rfl,rfl⟩
 rw[a1]
 go_wp2_with fail
 refine(bWithin_any _ _ _ _).mono ?_
 rintro e w' ⟨rfl,rfl⟩
 rw[a2]
 go_wp2_with fail
 refine(CF.out _).mono ?_
 rintro e w' ⟨rfl,rfl⟩
 go_wp2_with fail
 refine(CD.out _).mono ?_
 rintro e w1 ⟨rfl,A0⟩
 have A1:=A0.size
 (try simp at A1)
 have A3:=bl5 A0 (w.heap.size)
 have A7:=bl5 A0 (w.heap.size+1)
 go_wp2_with fail
 refine(CX.out _).mono ?_
 rintro e w' ⟨rfl,rfl⟩
 go_wp2_with fail
 refine(CY.out _).mono ?_
 rintro e w' ⟨rfl,rfl⟩
 go_wp2_with fail
 refine(CC.out _).mono ?_
 rintro e w' ⟨rfl,rfl⟩
 go_wp2_with fail
 refine(CB.out _).mono ?_
 rintro e w2 ⟨rfl,A4⟩
 have A8:=A4.size
 (try simp at A8)
 have A9:=bl5 A4 (w.heap.size+1)
 go_wp2
 refine bodyPost_ret (by simp[results,Tryz.results230,go_sem, *];first|done|rfl) rfl ?_
 exact⟨rfl,blw⟩
set_option maxHeartbeats 2000000 in
theorem rArc_zero (l:Int) (w:World) (hin:InParts l l) (hz:l%1048576=0) :
  Calls Tryz.prog 230 #[.agg #[.int .i64 l,.int .i64 l]] w fun e w'=>e = .returned (outR (arM l l))∧Below w.heap.size w w':=by
 unfold InParts at hin
 obtain⟨m,hm⟩:∃m,(l+l)/2=m:=⟨_,rfl⟩
 have hR:arR l l=0:=by unfold arR;rw[if_pos ⟨rfl,hz⟩]
 unfold arM
 rw[hm,hR]
 have m1:l≤m:=by omega
 have m2:m≤l:=by omega
 have bs:=dc_sm m
 unfold Dsm at bs
 obtain⟨b1,b2,b3,b4⟩:=bs
 have a1:=cut40 (x:=l) (by omega)
 have a2:=cut40 (x:=l) (by omega)
 have CF:Hid (∀w,Calls Tryz.prog 87 #[.int .i64 (l+l),.int .i64 2] w fun e w'=>e = .returned (.int .i64 m)∧w'=w):=Lib.hid fun w=>by
  have t:=bFloor_any (l+l) 2 w (by omega) (by omega) (by omega) (by omega)
  rw[hm]at t;exact t
 have CD:=Lib.hid (fun w=>rdir_any m w (by omega) (by omega))
 have CX:Hid (∀w,Calls Tryz.prog 238 #[.int .i64 (dcX m),.int .i64 64] w fun e w'=>e = .returned (.tuple #[.int .i64 (ctX m),.bool (dcX m%64 != 0)])∧w'=w):=Lib.hid fun w=>by
  have t:=bRounded_any (dcX m) 64 w (by omega) (by omega) (by omega) (by omega)
  rw[(ct_def m).1]at t;exact t
 have CY:Hid (∀w,Calls Tryz.prog 238 #[.int .i64 (dcY m),.int .i64 64] w fun e w'=>e = .returned (.tuple #[.int .i64 (ctY m),.bool (dcY m%64 != 0)])∧w'=w):=Lib.hid fun w=>by
  have t:=bRounded_any (dcY m) 64 w (by omega) (by omega) (by omega) (by omega)
  rw[(ct_def m).2]at t;exact t
 have CC:=Lib.hid (fun w=>bCeil_any (0) 7 w (by omega) (by omega) (by omega) (by omega))
 have cb:=fun w=>Checked_any (ctX m) (ctY m) (0) w
 rw[outR_quad]at cb ⊢
 have CB:=Lib.hid cb
 have k0:0 ≤ -(-(11*(l-m))/7):=by omega
 have k1 : -(-(11*(l-m))/7)≤36028797018963968:=by omega
 obtain rfl:m=l:=by omega
 have CQ:Hid (∀w,Calls Tryz.prog 98 #[.int .i64 m,.int .i64 1048576] w fun e w'=>e = .returned (.int .i64 (m%1048576))∧w'=w):=Lib.hid fun w=>bMod_any m 1048576 w (by omega) (by omega) (by omega) (by omega)
 have t1:(m==m)=true:=by simp
 have t2:(m%1048576==0)=true:=by simp;omega
 have z0:m-m=0:=by omega
 clear hR cb
 generalize fin (ctX m) (ctY m) (0) 0=F at *
 generalize ctX m=X at *
 generalize ctY m=Y at *
 generalize (dcX m%64 != 0)=U at *
 generalize (dcY m%64 != 0)=V at *
 generalize dcX m=x at *
 generalize dcY m=y at *
 clear hz hm
 generalize m%1048576=q at *
 go_enter Tryz.func230,Tryz.ntmps230
 go_wp2_with fail
 refine(bWithin_any _ _ _ _).mono ?_
 rintro e w' ⟨rfl,rfl⟩
 rw[a1]
 go_wp2_with fail
 refine(bWithin_any _ _ _ _).mono ?_
 rintro e w' ⟨rfl,rfl⟩
 rw[a2]
 go_wp2_with fail
 refine(CF.out _).mono ?_
 rintro e w' ⟨rfl,rfl⟩
 go_wp2_with fail
 refine(CD.out _).mono ?_
 rintro e w1 ⟨rfl,A0⟩
 have A1:=A0.size
 (try simp at A1)
 have A3:=bl5 A0 (w.heap.size)
 have A7:=bl5 A0 (w.heap.size+1)
 go_wp2_with fail
 refine(CX.out _).mono ?_
 rintro e w' ⟨rfl,rfl⟩
 go_wp2_with fail
 refine(CY.out _).mono ?_
 rintro e w' ⟨rfl,rfl⟩
 go_wp2_with fail
 refine(CC.out _).mono ?_
 rintro e w' ⟨rfl,rfl⟩
 go_wp2_with fail
 refine(CQ.out _).mono ?_
 rintro e w' ⟨rfl,rfl⟩
 go_wp2_with fail
 refine(CB.out _).mono ?_
 rintro e w2 ⟨rfl,A4⟩
 have A8:=A4.size
 (try simp at A8)
 have A9:=bl5 A4 (w.heap.size+1)
 go_wp2
 refine bodyPost_ret (by simp[results,Tryz.results230,go_sem, *];first|done|rfl) rfl ?_
 exact⟨rfl,blw⟩
set_option maxHeartbeats 2000000 in
theorem rArc_eq (l:Int) (w:World) (hin:InParts l l) (hz:¬l%1048576=0) :
  Calls Tryz.prog 230 #[.agg #[.int .i64 l,.int .i64 l]] w fun e w'=>e = .returned (outR (arM l l))∧Below w.heap.size w w':=by
 unfold InParts at hin
 obtain⟨m,hm⟩:∃m,(l+l)/2=m:=⟨_,rfl⟩
 have hR:arR l l=2:=by unfold arR;rw[if_neg (fun k=>hz k.2),hm];omega
 unfold arM
 rw[hm,hR]
 have m1:l≤m:=by omega
 have m2:m≤l:=by omega
 have bs:=dc_sm m
 unfold Dsm at bs
 obtain⟨b1,b2,b3,b4⟩:=bs
 have a1:=cut40 (x:=l) (by omega)
 have a2:=cut40 (x:=l) (by omega)
 have CF:Hid (∀w,Calls Tryz.prog 87 #[.int .i64 (l+l),.int .i64 2] w fun e w'=>e = .returned (.int .i64 m)∧w'=w):=Lib.hid fun w=>by
  have t:=bFloor_any (l+l) 2 w (by omega) (by omega) (by omega) (by omega)
  rw[hm]at t;exact t
 have CD:=Lib.hid (fun w=>rdir_any m w (by omega) (by omega))
 have CX:Hid (∀w,Calls Tryz.prog 238 #[.int .i64 (dcX m),.int .i64 64] w fun e w'=>e = .returned (.tuple #[.int .i64 (ctX m),.bool (dcX m%64 != 0)])∧w'=w):=Lib.hid fun w=>by
  have t:=bRounded_any (dcX m) 64 w (by omega) (by omega) (by omega) (by omega)
  rw[(ct_def m).1]at t;exact t
 have CY:Hid (∀w,Calls Tryz.prog 238 #[.int .i64 (dcY m),.int .i64 64] w fun e w'=>e = .returned (.tuple #[.int .i64 (ctY m),.bool (dcY m%64 != 0)])∧w'=w):=Lib.hid fun w=>by
  have t:=bRounded_any (dcY m) 64 w (by omega) (by omega) (by omega) (by omega)
  rw[(ct_def m).2]at t;exact t
 have CC:=Lib.hid (fun w=>bCeil_any (0) 7 w (by omega) (by omega) (by omega) (by omega))
 have cb:=fun w=>Checked_any (ctX m) (ctY m) (2) w
 rw[outR_quad]at cb ⊢
 have CB:=Lib.hid cb
 have k0:0 ≤ -(-(11*(l-m))/7):=by omega
 have k1 : -(-(11*(l-m))/7)≤36028797018963968:=by omega
 obtain rfl:m=l:=by omega
 have CQ:Hid (∀w,Calls Tryz.prog 98 #[.int .i64 m,.int .i64 1048576] w fun e w'=>e = .returned (.int .i64 (m%1048576))∧w'=w):=Lib.hid fun w=>bMod_any m 1048576 w (by omega) (by omega) (by omega) (by omega)
 have t1:(m==m)=true:=by simp
 have t2:(m%1048576==0)=false:=by simp;omega
 have z0:m-m=0:=by omega
 clear hR cb
 generalize fin (ctX m) (ctY m) (2) 0=F at *
 generalize ctX m=X at *
 generalize ctY m=Y at *
 generalize (dcX m%64 != 0)=U at *
 generalize (dcY m%64 != 0)=V at *
 generalize dcX m=x at *
 generalize dcY m=y at *
 clear hz hm
 generalize m%1048576=q at *
 go_enter Tryz.func230,Tryz.ntmps230
 go_wp2_with fail
 refine(bWithin_any _ _ _ _).mono ?_
 rintro e w' ⟨rfl,rfl⟩
 rw[a1]
 go_wp2_with fail
 refine(bWithin_any _ _ _ _).mono ?_
 rintro e w' ⟨rfl,rfl⟩
 rw[a2]
 go_wp2_with fail
 refine(CF.out _).mono ?_
 rintro e w' ⟨rfl,rfl⟩
 go_wp2_with fail
 refine(CD.out _).mono ?_
 rintro e w1 ⟨rfl,A0⟩
 have A1:=A0.size
 (try simp at A1)
 have A3:=bl5 A0 (w.heap.size)
 have A7:=bl5 A0 (w.heap.size+1)
 go_wp2_with fail
 refine(CX.out _).mono ?_
 rintro e w' ⟨rfl,rfl⟩
 go_wp2_with fail
 refine(CY.out _).mono ?_
 rintro e w' ⟨rfl,rfl⟩
 go_wp2_with fail
 refine(CC.out _).mono ?_
 rintro e w' ⟨rfl,rfl⟩
 go_wp2_with fail
 refine(CQ.out _).mono ?_
 rintro e w' ⟨rfl,rfl⟩
 go_wp2_with fail
 refine(CB.out _).mono ?_
 rintro e w2 ⟨rfl,A4⟩
 have A8:=A4.size
 (try simp at A8)
 have A9:=bl5 A4 (w.heap.size+1)
 go_wp2
 refine bodyPost_ret (by simp[results,Tryz.results230,go_sem, *];first|done|rfl) rfl ?_
 exact⟨rfl,blw⟩
theorem rArc_any (lo hi:Int) (w:World) :
  Calls Tryz.prog 230 #[.agg #[.int .i64 lo,.int .i64 hi]] w fun e w'=>e = .returned (outR (arcM lo hi))∧Below w.heap.size w w':=by
 unfold arcM
 by_cases h:InParts lo hi
 ·rw[if_pos h]
  by_cases h2:lo≤hi
  ·rw[if_pos h2]
   rcases Int.lt_or_le lo hi with c|c
   ·exact rArc_lt lo hi w h c
   ·obtain rfl:lo=hi:=by omega
    by_cases hz:lo%1048576=0
    ·exact rArc_zero lo w h hz
    ·exact rArc_eq lo w h hz
  ·rw[if_neg h2,outR_quad]
   unfold InParts at h
   have a1:=cut40 (x:=lo) (by omega)
   have a2:=cut40 (x:=hi) (by omega)
   have t2:hi<lo:=by omega
   obtain⟨q1,q2,q3,q4⟩:=quad_bad 10
   rw[q1,q2,q3,q4]
   clear q1 q2 q3 q4
   go_enter Tryz.func230,Tryz.ntmps230
   go_wp2_with fail
   refine(bWithin_any _ _ _ _).mono ?_
   rintro e w' ⟨rfl,rfl⟩
   rw[a1]
   go_wp2_with fail
   refine(bWithin_any _ _ _ _).mono ?_
   rintro e w' ⟨rfl,rfl⟩
   rw[a2]
   go_wp2
   refine bodyPost_ret (by simp[results,Tryz.results230,go_sem, *];first|done|rfl) rfl ?_
   exact⟨rfl,blw⟩
 ·rw[if_neg h,outR_quad]
  obtain⟨q1,q2,q3,q4⟩:=quad_bad 2
  rw[q1,q2,q3,q4]
  clear q1 q2 q3 q4
  unfold InParts at h
  by_cases c1 : -1099511627776≤lo∧lo≤1099511627776
  ·have a1:=cut40 c1
   have a2:=cut40n (x:=hi) (by omega)
   clear h c1
   go_enter Tryz.func230,Tryz.ntmps230
   go_wp2_with fail
   refine(bWithin_any _ _ _ _).mono ?_
   rintro e w' ⟨rfl,rfl⟩
   rw[a1]
   go_wp2_with fail
   refine(bWithin_any _ _ _ _).mono ?_
   rintro e w' ⟨rfl,rfl⟩
   rw[a2]
   go_wp2
   refine bodyPost_ret (by simp[results,Tryz.results230,go_sem, *];first|done|rfl) rfl ?_
   exact⟨rfl,blw⟩
  ·have a1:=cut40n c1
   clear h c1
   go_enter Tryz.func230,Tryz.ntmps230
   go_wp2_with fail
   refine(bWithin_any _ _ _ _).mono ?_
   rintro e w' ⟨rfl,rfl⟩
   rw[a1]
   go_wp2
   refine bodyPost_ret (by simp[results,Tryz.results230,go_sem, *];first|done|rfl) rfl ?_
   exact⟨rfl,blw⟩
theorem dc_turn (m k:Int):dcX (m-4194304*k)=dcX m∧dcY (m-4194304*k)=dcY m:=by
 have:plc (m-4194304*k)=plc m:=by unfold plc;congr 1;omega
 unfold dcX dcY
 rw[this]
 exact⟨rfl,rfl⟩
theorem arM_turn (l h k:Int):arM (l-4194304*k) (h-4194304*k)=arM l h:=by
 have e1:(l-4194304*k+(h-4194304*k))/2=(l+h)/2-4194304*k:=by omega
 have e2:arR (l-4194304*k) (h-4194304*k)=arR l h:=by
  unfold arR
  rw[e1]
  have c:(l-4194304*k=h-4194304*k∧(l-4194304*k)%1048576=0)↔(l=h∧l%1048576=0):=by constructor<;>(rintro⟨a,b⟩;constructor<;>omega)
  by_cases d:l=h∧l%1048576=0
  ·rw[if_pos d,if_pos (c.2 d)]
  ·rw[if_neg d,if_neg (fun x=>d (c.1 x)),show h-4194304*k-((l+h)/2-4194304*k)=h-(l+h)/2 by omega]
 unfold arM
 rw[e2,e1]
 have d:=dc_turn ((l+h)/2) k
 have x1:ctX ((l+h)/2-4194304*k)=ctX ((l+h)/2):=by unfold ctX;rw[d.1]
 have x2:ctY ((l+h)/2-4194304*k)=ctY ((l+h)/2):=by unfold ctY;rw[d.2]
 rw[x1,x2]
end Go.Proofs.YtnljkhlmdacfaaaGreatDoor
