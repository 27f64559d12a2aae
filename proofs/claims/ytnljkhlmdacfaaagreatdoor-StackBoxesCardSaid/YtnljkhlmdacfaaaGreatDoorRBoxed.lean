/- Boxes around layers: the reference's walk (gen_boxed.py). -/
import Derived.Test.YtnljkhlmdacfaaaGreatDoorBoxedLaw
import Derived.Test.YtnljkhlmdacfaaaGreatDoorCalmTwo
import Derived.Test.YtnljkhlmdacfaaaGreatDoorRAsk
import Derived.Test.YtnljkhlmdacfaaaGreatDoorKRa
import Derived.BigRegion
namespace Go.Proofs.YtnljkhlmdacfaaaGreatDoor
open Go Go.Sort Go.RowKit
theorem calm_move {P:Program}{id:Nat}{Q:Exit→Act→World→Prop}{a:Act}{w:World}{l:List Oper} (n p:Nat) (os op:Oper) (hs:l[n]?=some os) (hp:l[p]?=some op) (hm:P.follows .mixedOrders=true)
  (hB:Region.lexTailB .any (l.set n (waiting os p)).toArray n=true) (hL:lateM .any l n p=true) (hQ:∀c a v w,Q (.panic c) (a.put op.dst v) w→Q (.panic c) a w)
  (h:(∀b,b<w.heap.size→∀d os o,(grow (redrawn w d) os).cell? ⟨b,o,none⟩=w.cell? ⟨b,o,none⟩) →
   wpQuiet P l.toArray (fun w'=>∃p:Regrown,w'=grow (redrawn w p.d) p.os) (fun a'=>∀w',Below w.heap.size w w'→wpList P l.toArray Q (l.drop n) a' w') (l.take n) a):(Code.region id l.toArray true).wp P Q a w:=by
 have h:=h fun b hb d os o=>(below_regrown w d os).cell (p:=⟨b,o,none⟩) hb
 refine wp_region_any hm ?_
 have hsz:(l.set n (waiting os p)).toArray.size=l.toArray.size:=by simp
 have:=wpAny_calm (P:=P) (Q:=Q) (a:=a) (w:=w) (C:=fun w'=>∃p:Regrown,w'=grow (redrawn w p.d) p.os) (l:=l.set n (waiting os p)) n hB ⟨⟨w.drawn+1,#[]⟩,by rw[grow_empty];rfl⟩ (by
  rw[List.take_set_of_le (by omega)]
  exact wpQuiet_set hs (fun a' hh w' hw'=>by
   obtain⟨p',rfl⟩:=hw'
   exact wpList_wait hs (hh _ (below_regrown w p'.d p'.os))) _ _ h)
 rw[hsz]at this
 exact wpAny_move hs hp hL hQ _ _ _ _ (by simp) this
theorem r3idx_is (n:Int) (t:Bool) (w:World) (h:inR n 5000 80000=t):Calls Tryz.prog 109 #[.int .i64 n] w fun e w'=>e = .returned (.bool t)∧w'=w:=by
 have k:=r3idx_any n w
 rw[h]at k
 exact k
theorem r3loss_is (n:Int) (t:Bool) (w:World) (h:inR n 0 80000=t):Calls Tryz.prog 110 #[.int .i64 n] w fun e w'=>e = .returned (.bool t)∧w'=w:=by
 have k:=r3loss_any n w
 rw[h]at k
 exact k
set_option maxRecDepth 100000 in
set_option maxHeartbeats 8000000 in
theorem rBoxed_any (p:Option Addr) (n cp:Nat) (Z:Nat→Nat→Int) (th:Int) (w:World) (hz:Zs p n 3 Z w) :
  Calls Tryz.prog 38 #[.slice p n cp,.int .i64 th] w fun E w'=>BoxRet n Z th w E w':=by
 by_cases hn:40<n
 ·have hn1:(40:Int)<n:=by omega
  have K:=Lib.hid (fun w' hb=>boxRet_bad (w:=w) (w':=w') (bxQ_large (Z:=Z) (th:=th) hn) (by decide) hb)
  clear hz
  go_enter Tryz.func38,Tryz.ntmps38
  repeat' (first|go_values|go_skip|go_guarded|go_step|go_upon|(simp only[];go_simp))
  go_ret2
  exact K.out _ blw
 have hn1:¬(40:Int)<n:=by omega
 have LY:=Lib.hid (fun k hk h1 w' hb=>boxRet_bad (w:=w) (w':=w') (bxQ_lay (Z:=Z) (th:=th) hn (k:=k) hk h1) (by decide) hb)
 have TH:=Lib.hid (fun h1 h2 w' hb=>boxRet_bad (w:=w) (w':=w') (bxQ_th (Z:=Z) (th:=th) hn h1 h2) (by decide) hb)
 have FI:=Lib.hid (fun h1 h2 k hk h3 w' hb=>boxRet_bad (w:=w) (w':=w') (bxQ_fit (Z:=Z) (th:=th) hn h1 h2 (k:=k) hk h3) (by decide) hb)
 have OK:=Lib.hid (fun h1 h2 h3 V N w' ho hb=>boxRet_ok (w:=w) (w':=w') (V:=V) (N:=N) (bxQ_ok (Z:=Z) (th:=th) hn h1 h2 h3) ho hb)
 have HN:=Lib.hid hn
 clear hn
 go_enter Tryz.func38,Tryz.ntmps38
 go_wp2_with fail
 go_loopw [6] (fun i wr=>∃k:Nat,k≤n∧i = .int .i64 k∧Below w.heap.size w wr∧Hid (allTo (layB Z) k=true)) (fun i _=>n-(intOf i).toNat)
 case atStart=>exact⟨0,by omega,rfl,blw,Lib.hid (allTo_zero _)⟩
 case round =>
  obtain⟨k,hk,rfl,A0,HA⟩:=hrel
  by_cases hlt:k<n
  ·obtain⟨a,ha,hc⟩:=(hz.bel A0).get k hlt
   subst ha
   have c0:=hc 0 (by decide)
   have c1:=hc 1 (by decide)
   have c2:=hc 2 (by decide)
   rw[Nat.add_zero]at c0
   rw[← add_off]at c1
   rw[← add_off2']at c2
   have hal:(a.add (k*3)).block<wr.heap.size:=World.block_lt_of_cell? _ _ c0
   have hne:¬(a.add (k*3)).block=wr.heap.size:=by omega
   have hlt2:(k:Int)<n:=by omega
   have LK:=Lib.hid (fun h1 w' hb=>LY.out k hlt h1 w' hb)
   have HL:=Lib.hid (fun g0 g1 g2=>allTo_next HA.out (lay_yes (Z:=Z) (i:=k) g0 g1 g2))
   have HK:=Lib.hid (fun h=>h:layB Z k=false→layB Z k=false)
   have N0:=Lib.hid (fun h=>lay_no0 (Z:=Z) (i:=k) h)
   have N1:=Lib.hid (fun h=>lay_no1 (Z:=Z) (i:=k) h)
   have N2:=Lib.hid (fun h=>lay_no2 (Z:=Z) (i:=k) h)
   clear hz hc TH FI OK LY HA HN HK
   by_cases g0:inR (Z k 0) 5000 80000=true
   case neg =>
    have g0':inR (Z k 0) 5000 80000=false:=by simpa using g0
    have K:=Lib.hid (fun w' hb=>LK.out (N0.out g0') w' hb)
    clear N0 N1 N2 HL LK g0
    generalize Z k 0=x at *
    generalize Z k 1=l at *
    generalize Z k 2=t at *
    go_wp2_with fail
    refine(r3idx_is _ _ _ g0').mono ?_
    rintro e w' ⟨rfl,rfl⟩
    repeat' (first|go_values|go_skip|go_guarded|go_step|go_upon|(simp only[];go_simp))
    go_ret2
    exact K.out _ blw
   by_cases g1:inR (Z k 1) 0 80000=true
   case neg =>
    have g1':inR (Z k 1) 0 80000=false:=by simpa using g1
    have K:=Lib.hid (fun w' hb=>LK.out (N1.out g1') w' hb)
    clear N0 N1 N2 HL LK g1
    generalize Z k 0=x at *
    generalize Z k 1=l at *
    generalize Z k 2=t at *
    go_wp2_with fail
    refine(r3idx_is _ _ _ g0).mono ?_
    rintro e w' ⟨rfl,rfl⟩
    go_wp2_with fail
    refine(r3loss_is _ _ _ g1').mono ?_
    rintro e w' ⟨rfl,rfl⟩
    repeat' (first|go_values|go_skip|go_guarded|go_step|go_upon|(simp only[];go_simp))
    go_ret2
    exact K.out _ blw
   by_cases g2:inR (Z k 2) 0 1000000=true
   case neg =>
    have g2':inR (Z k 2) 0 1000000=false:=by simpa using g2
    have K:=Lib.hid (fun w' hb=>LK.out (N2.out g2') w' hb)
    clear N0 N1 N2 HL LK g2
    generalize Z k 0=x at *
    generalize Z k 1=l at *
    generalize Z k 2=t at *
    go_wp2_with fail
    refine(r3idx_is _ _ _ g0).mono ?_
    rintro e w' ⟨rfl,rfl⟩
    go_wp2_with fail
    refine(r3loss_is _ _ _ g1).mono ?_
    rintro e w' ⟨rfl,rfl⟩
    go_wp2_with fail
    refine(r7within_is _ 0 1000000 _ _ g2').mono ?_
    rintro e w' ⟨rfl,rfl⟩
    repeat' (first|go_values|go_skip|go_guarded|go_step|go_upon|(simp only[];go_simp))
    go_ret2
    exact K.out _ blw
   have HL2:=Lib.hid (HL.out g0 g1 g2)
   clear HL
   clear N0 N1 N2 LK
   generalize Z k 0=x at *
   generalize Z k 1=l at *
   generalize Z k 2=t at *
   go_wp2_with fail
   refine(r3idx_is _ _ _ g0).mono ?_
   rintro e w' ⟨rfl,rfl⟩
   go_wp2_with fail
   refine(r3loss_is _ _ _ g1).mono ?_
   rintro e w' ⟨rfl,rfl⟩
   go_wp2_with fail
   refine(r7within_is _ 0 1000000 _ _ g2).mono ?_
   rintro e w' ⟨rfl,rfl⟩
   go_wp2_with fail
   go_roundw
   case rel=>exact⟨k+1,by omega,by first|(simp;done)|(simp;omega),blw,HL2⟩
   case measure=>simp[intOf];omega
  ·obtain rfl:k=n:=by omega
   have hlt2:¬((k:Int)<k):=by omega
   rename World=>w1
   rename Below w.heap.size w w1=>A7
   have AL:=HA.out
   have TH:=Lib.hid (fun h2 w' hb=>TH.out AL h2 w' hb)
   have FI:=Lib.hid (fun h2 j hj h3 w' hb=>FI.out AL h2 j hj h3 w' hb)
   have OK:=Lib.hid (fun h2 h3 V N w' ho hb=>OK.out AL h2 h3 V N w' ho hb)
   have MN:=Lib.hid (fun(h2:inR th 0 1000=true) (j:Nat) (hj:j<k)=>And.intro (lay_nums AL hj) (more_nums AL hj h2))
   clear AL HA LY
   by_cases gt:inR th 0 1000=true
   case neg =>
    have gt':inR th 0 1000=false:=by simpa using gt
    have K:=Lib.hid (fun w' hb=>TH.out gt' w' hb)
    clear TH FI OK MN hz gt HN
    go_wp2_with fail
    refine(r7within_is _ 0 1000 _ _ gt').mono ?_
    rintro e w' ⟨rfl,rfl⟩
    repeat' (first|go_values|go_skip|go_guarded|go_step|go_upon|(simp only[];go_simp))
    go_ret2
    exact K.out _ blw
   have FI:=Lib.hid (fun j hj h3 w' hb=>FI.out gt j hj h3 w' hb)
   have OK:=Lib.hid (fun h3 V N w' ho hb=>OK.out gt h3 V N w' ho hb)
   have MN:=Lib.hid (fun(j:Nat) (hj:j<k)=>MN.out gt j hj)
   obtain⟨ii,hi0,hi1,hi2,hi3⟩:=box_info
   have N40:=HN.out
   clear TH HN
   go_wp2_with fail
   refine(r7within_is _ 0 1000 _ _ gt).mono ?_
   rintro e w' ⟨rfl,rfl⟩
   go_wp2_with fail
   clear hlt2 hk hn1
   go_loopw [7,8] (fun V i wr=>∃j:Nat,j≤k∧i = .int .i64 j∧Below w.heap.size w wr∧wr.ownsRow w.heap.size 52 5 V j (cellsOf (rowK Z th j))∧Hid (allTo (fitB Z th) j=true)) (fun _ i _=>k-(intOf i).toNat)
   case atStart=>exact⟨0,by omega,rfl,blw,World.ownsRow_nil _ _ _ _,Lib.hid (allTo_zero _)⟩
   case round =>
    obtain⟨j,hj,rfl,A0,hown,HF⟩:=hrel
    by_cases hlt:j<k
    ·obtain⟨a,ha,hc⟩:=(hz.bel A0).get j hlt
     subst ha
     have c0:=hc 0 (by decide)
     have c1:=hc 1 (by decide)
     have c2:=hc 2 (by decide)
     rw[Nat.add_zero]at c0
     rw[← add_off]at c1
     rw[← add_off2']at c2
     have hal:(a.add (j*3)).block<wr.heap.size:=World.block_lt_of_cell? _ _ c0
     have hne:¬(a.add (j*3)).block=wr.heap.size:=by omega
     have hlt2:(j:Int)<k:=by omega
     obtain⟨⟨t0,t1⟩,⟨p0,p1⟩,e0,e1⟩:=MN.out j hlt
     have FK:=Lib.hid (fun h3 w' hb=>FI.out j hlt (fit_no h3) w' hb)
     have HN:=Lib.hid (fun h3=>allTo_next HF.out (fit_yes h3))
     have CN:=Lib.hid (rowK_cells Z th j)
     unfold Box.five boxK at CN
     dsimp only at CN
     have hm:moreT Z th j=up (Z j 2*th) 1000:=by unfold moreT;rfl
     have UP:=Lib.hid (fun w=>bceil_up (Z j 2*th) 1000 w (by omega) (by omega) (by decide) (by decide))
     rw[← hm]at UP
     clear hm hz hc FI OK MN HF
     generalize moreT Z th j=e at *
     generalize Z j 2=t at *
     generalize Z j 0=x at *
     generalize Z j 1=l at *
     generalize hcs:cellsOf (rowK Z th j)=cs at *
     have hown:=Lib.hid hown
     clear hcs
     obtain⟨m,hm2⟩:∃m,t*th=m:=⟨_,rfl⟩
     have W1:IntKind.i64.wrap (t*th)=m:=by rw[IntWalk.i64_in _ ⟨by omega,by omega⟩];exact hm2
     have W2:wrap64 (t*th)=m:=by rw[IntWalk.wrap64_in _ ⟨by omega,by omega⟩];exact hm2
     rw[hm2]at UP
     clear hm2 p0 p1
     have W3:IntKind.i64.wrap (t+e)=t+e:=IntWalk.i64_in _ ⟨by omega,by omega⟩
     have W4:IntKind.i64.wrap (t-e)=t-e:=IntWalk.i64_in _ ⟨by omega,by omega⟩
     have W5:wrap64 (t+e)=t+e:=IntWalk.wrap64_in _ ⟨by omega,by omega⟩
     have W6:wrap64 (t-e)=t-e:=IntWalk.wrap64_in _ ⟨by omega,by omega⟩
     by_cases hf:t+e≤1000000
     case neg =>
      have hf1:1000000<t+e:=by omega
      have K:=Lib.hid (fun w' hb=>FK.out hf w' hb)
      clear FK HN CN hown hf
      go_wp2_with fail
      refine(UP.out _).mono ?_
      rintro e w' ⟨rfl,rfl⟩
      repeat' (first|go_values|go_skip|go_guarded|go_step|go_upon|(simp only[];go_simp))
      go_ret2
      exact K.out _ blw
     have hf1:¬1000000<t+e:=by omega
     have HN:=Lib.hid (HN.out hf)
     clear FK
     have hkm:j+1≤maxLen:=by unfold maxLen;omega
     have hkb:(j+1)*40≤140737488355328:=by omega
     have HC:=Lib.hid (And.intro hkm hkb)
     clear hkm hkb
     have hj40:j≤40:=by omega
     clear N40
     obtain⟨mx,hmx⟩:∃mx,max 0 (t-e)=mx:=⟨_,rfl⟩
     rw[hmx]at CN
     go_wp2_with fail
     refine(UP.out _).mono ?_
     rintro e w' ⟨rfl,rfl⟩
     skip
     by_cases hx:t≤e
     ·obtain rfl:mx=0:=by omega
      go_wp2_with fail
      refine calm_move 34 0 _ _ rfl rfl (by kernel_rfl) (by kernel_rfl) (by kernel_rfl) (fun _ _ _ _ h=>h) fun hG => ?_
      have A3:=hG_at hG (p:=a.add (j*3)) (v := .int .i64 x) (by first|exact c0|(simp[*,go_sem];done))
      have A4:=hG_at hG (p:=⟨(a.add (j*3)).block,(a.add (j*3)).off+1,none⟩) (v := .int .i64 l) (by first|exact c1|(simp[*,go_sem];done))
      have A5:=hG_at hG (p:=⟨(a.add (j*3)).block,(a.add (j*3)).off+2,none⟩) (v := .int .i64 t) (by first|exact c2|(simp[*,go_sem];done))
      clear hG
      simp only[List.take_succ_cons,List.take_zero,List.drop_succ_cons,List.drop_zero]
      repeat (go_big_quiet_step (fail))
      refine wpQuiet_nil ?_
      intro w9 A2
      have A6:=A2.size
      clear A3 A4 A5
      go_wp2_with (at_builtin;refine wpList_mark ?_)
      refine wpList_append_own_at _ rfl _ _ 24 rfl w.heap.size 52 ii _ 5 40 Tryz.underlying24 hi0 hi1 hi2 hi3 rfl (by decide) u7 j cs rfl (hown.out.kept (grown_of_bel (show Below w'.heap.size w' _ from blw) none) (by cases u7.ownBlock<;>simp)) ⟨_,0,none⟩ 1 1 [.int .i64 x,.int .i64 x,.int .i64 0,.int .i64 (t+e),.int .i64 l] rfl rfl (cell_five_at (by first|rfl|(simp;done)) _ _ _ _ _ _) (five_cell _ _ _ _ _) HC.out.1 HC.out.2 (by have:=A0.size;first|omega|(simp;omega)) ?_
      intro V2 w10 hown2 hgrow hnil hloc
      have hown3:w10.ownsRow w.heap.size 52 5 V2 (j+1) (cellsOf (rowK Z th (j+1))):=by rw[CN.out];exact hown2
      have A1:Below w.heap.size w w10:=grown_bel (v:=u7) (show Below w.heap.size w _ from blw) hgrow (fun b hb=>(hown.out.lt b hb).1)
      have hown3:=Lib.hid hown3
      clear hown2 hgrow hnil hloc hi0 hi1 hi2 hi3 HC CN
      go_wp2_with fail
      go_roundw
      case rel=>exact⟨j+1,by omega,by first|(simp;done)|(simp;omega),A1,hown3.out,HN⟩
      case measure=>simp[intOf];omega
     ·obtain rfl:mx=t-e:=by omega
      go_wp2_with fail
      refine calm_move 34 0 _ _ rfl rfl (by kernel_rfl) (by kernel_rfl) (by kernel_rfl) (fun _ _ _ _ h=>h) fun hG => ?_
      have A3:=hG_at hG (p:=a.add (j*3)) (v := .int .i64 x) (by first|exact c0|(simp[*,go_sem];done))
      have A4:=hG_at hG (p:=⟨(a.add (j*3)).block,(a.add (j*3)).off+1,none⟩) (v := .int .i64 l) (by first|exact c1|(simp[*,go_sem];done))
      have A5:=hG_at hG (p:=⟨(a.add (j*3)).block,(a.add (j*3)).off+2,none⟩) (v := .int .i64 t) (by first|exact c2|(simp[*,go_sem];done))
      clear hG
      simp only[List.take_succ_cons,List.take_zero,List.drop_succ_cons,List.drop_zero]
      repeat (go_big_quiet_step (fail))
      refine wpQuiet_nil ?_
      intro w9 A2
      have A6:=A2.size
      clear A3 A4 A5
      go_wp2_with (at_builtin;refine wpList_mark ?_)
      refine wpList_append_own_at _ rfl _ _ 24 rfl w.heap.size 52 ii _ 5 40 Tryz.underlying24 hi0 hi1 hi2 hi3 rfl (by decide) u7 j cs rfl (hown.out.kept (grown_of_bel (show Below w'.heap.size w' _ from blw) none) (by cases u7.ownBlock<;>simp)) ⟨_,0,none⟩ 1 1 [.int .i64 x,.int .i64 x,.int .i64 (t-e),.int .i64 (t+e),.int .i64 l] rfl rfl (cell_five_at (by first|rfl|(simp;done)) _ _ _ _ _ _) (five_cell _ _ _ _ _) HC.out.1 HC.out.2 (by have:=A0.size;first|omega|(simp;omega)) ?_
      intro V2 w10 hown2 hgrow hnil hloc
      have hown3:w10.ownsRow w.heap.size 52 5 V2 (j+1) (cellsOf (rowK Z th (j+1))):=by rw[CN.out];exact hown2
      have A1:Below w.heap.size w w10:=grown_bel (v:=u7) (show Below w.heap.size w _ from blw) hgrow (fun b hb=>(hown.out.lt b hb).1)
      have hown3:=Lib.hid hown3
      clear hown2 hgrow hnil hloc hi0 hi1 hi2 hi3 HC CN
      go_wp2_with fail
      go_roundw
      case rel=>exact⟨j+1,by omega,by first|(simp;done)|(simp;omega),A1,hown3.out,HN⟩
      case measure=>simp[intOf];omega
    ·obtain rfl:j=k:=by omega
     have hlt2:¬((j:Int)<j):=by omega
     have K:=Lib.hid (fun w' ho hb=>OK.out HF.out u7 w.heap.size w' ho hb)
     have hown:=Lib.hid hown
     clear hz FI OK MN HF
     go_wp2
     (with_reducible show bodyPost _ _ _ _ _ _);refine bodyPost_ret (by simp[results,Tryz.results38,go_sem, *];first|done|rfl) rfl ?_
     exact K.out _ hown.out blw
end Go.Proofs.YtnljkhlmdacfaaaGreatDoor
