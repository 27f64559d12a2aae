/- StackBoxes: the walk. -/
import Derived.Test.YtnljkhlmdacfaaaGreatDoorBoxed
import Derived.Test.YtnljkhlmdacfaaaGreatDoorRBoxed
import Derived.Test.YtnljkhlmdacfaaaGreatDoorLayCopy
import Derived.Test.YtnljkhlmdacfaaaGreatDoorSameAsk
import Derived.Test.YtnljkhlmdacfaaaGreatDoorKStk
namespace Go.Proofs.YtnljkhlmdacfaaaGreatDoor
open Go Go.Sort Go.RowKit
theorem box_rows {n:Nat}{Z:Nat→Nat→Int}{th:Int}{p3 p4:Option Addr}{m3 c3 m4 c4:Nat}{w3 w4:World} (bad3:¬bxQ n Z th=0→p3=none∧m3=0∧c3=0) (ok3:bxQ n Z th=0→m3=n∧Row p3 (rowK Z th n) w3)
  (bad4:¬bxQ n Z th=0→p4=none∧m4=0∧c4=0) (ok4:bxQ n Z th=0→m4=n∧Row p4 (rowK Z th n) w4) :
  ∃ls:List Box,m3=ls.length∧m4=ls.length∧Row p3 ls w3∧Row p4 ls w4∧ls.length≤40∧∀k b,ls[k]?=some b→k<n∧inR (Z k 2) b.tl b.th=true:=by
 by_cases hq:bxQ n Z th=0
 ·obtain⟨e3,r3⟩:=ok3 hq
  obtain⟨e4,r4⟩:=ok4 hq
  obtain⟨h1,h2,h3,_⟩:=bxQ_zero hq
  refine⟨rowK Z th n,by rw[rowK_len];exact e3,by rw[rowK_len];exact e4,r3,r4,by rw[rowK_len];exact h1,fun k b hb => ?_⟩
  have hk:k<n:=by have:=(List.getElem?_eq_some_iff.1 hb).1;rw[rowK_len]at this;exact this
  rw[rowK_get hk]at hb
  obtain rfl:=Option.some.inj hb
  obtain⟨t0,t1⟩:=lay_nums h2 hk
  obtain⟨_,e0,e1⟩:=more_nums h2 hk h3
  refine⟨hk,inR_yes.2 ⟨?_,?_⟩⟩
  ·show max 0 (Z k 2-moreT Z th k)≤Z k 2
   omega
  ·show Z k 2≤Z k 2+moreT Z th k
   omega
 ·obtain⟨rfl,rfl,rfl⟩:=bad3 hq
  obtain⟨rfl,rfl,rfl⟩:=bad4 hq
  exact⟨[],rfl,rfl,⟨fun j b hj=>by simp at hj⟩,⟨fun j b hj=>by simp at hj⟩,by simp,fun k b hb=>by simp at hb⟩
set_option maxRecDepth 100000 in
set_option maxHeartbeats 8000000 in
theorem boxes_any (AW:Awake3) (p:Option Addr) (n cp:Nat) (Z:Nat→Nat→Int) (th:Int) (hp:p=none→n=0∧cp=0) (w:World) (hS:Std w) (hz:Zs p n 3 Z w) :
  Calls Tryz.prog 7 #[.slice p n cp,.int .i64 th] w fun e w'=>e = .returned (.bool true)∧Below w.heap.size w w':=by
 have AW:=Lib.hid AW
 have ST:=Lib.hid hS
 clear hS
 by_cases hn:6<n∧n≤40∨42<n
 ·clear hz hp
  have key:((6:Int)<n∧(n:Int)≤40)∨(42:Int)<n:=by omega
  rcases key with⟨k1,k2⟩|k3
  ·go_enter Tryz.func7,Tryz.ntmps7
   go_wp2_with fail
   refine(AW.out _ (ST.out.below blw)).mono ?_
   rintro e w1 ⟨rfl,A0⟩
   repeat' (first|go_values|go_skip|go_guarded|go_step|go_upon|(simp only[];go_simp))
   go_ret
   exact⟨rfl,blw⟩
  ·have k1:(6:Int)<n:=by omega
   have k2:¬(n:Int)≤40:=by omega
   go_enter Tryz.func7,Tryz.ntmps7
   go_wp2_with fail
   refine(AW.out _ (ST.out.below blw)).mono ?_
   rintro e w1 ⟨rfl,A0⟩
   repeat' (first|go_values|go_skip|go_guarded|go_step|go_upon|(simp only[];go_simp))
   go_ret
   exact⟨rfl,blw⟩
 have CL:=Lib.hid (fun w hz=>copyLays_any p n cp Z hp (by omega) w hz)
 have BX:=Lib.hid (fun p c w hz=>Boxed_any p n c Z th w hz)
 have RB:=Lib.hid (fun w hz=>rBoxed_any p n cp Z th w hz)
 have HZ:=Lib.hid hz
 have hn42:n≤42:=by omega
 have key:((6:Int)<n∧¬(n:Int)≤40)∨¬(6:Int)<n:=by omega
 have k3:¬(42:Int)<n:=by omega
 clear hn hp hz
 go_enter Tryz.func7,Tryz.ntmps7
 go_wp2_with fail
 refine(AW.out _ (ST.out.below blw)).mono ?_
 rintro e w1 ⟨rfl,A0⟩
 clear AW ST
 have hb1:Below w.heap.size w w1:=blw
 rcases key with⟨k1,k2⟩|k1
 all_goals go_wp2_with fail
 all_goals refine(CL.out _ (HZ.out.bel blw)).mono ?_
 all_goals rintro e w2 ⟨p2,c2,rfl,hz2,A6⟩
 all_goals go_wp2_with fail
 all_goals refine(BX.out p2 c2 _ hz2).mono ?_
 all_goals rintro e w3 ⟨⟨p3,m3,c3,rfl,bad3,ok3⟩,A7⟩
 all_goals go_wp2_with fail
 all_goals refine(RB.out _ (HZ.out.bel blw)).mono ?_
 all_goals rintro e w4 ⟨⟨p4,m4,c4,rfl,bad4,ok4⟩,A8⟩
 all_goals obtain⟨ls,rfl,rfl,r3,r4,hl,HB⟩:=box_rows bad3 ok3 bad4 ok4
 all_goals clear bad3 ok3 bad4 ok4 CL BX RB hz2
 all_goals generalize bxQ n Z th=q at *
 all_goals have HB:=Lib.hid HB
 all_goals have BE:=Lib.hid (fun w h1 h2=>boxes_eq p3 p4 ls c3 c4 (by omega) w h1 h2)
 all_goals go_wp2_with fail
 all_goals refine(BE.out _ (r3.bel blw) (r4.bel blw)).mono ?_
 all_goals rintro e w5 ⟨rfl,A9⟩
 all_goals have r5:=r3.bel (show Below w3.heap.size w3 w5 from blw)
 all_goals clear r3 r4 BE
 all_goals go_wp2_with fail
 all_goals go_loopw [9] (fun i wr=>∃k:Nat,k≤ls.length∧i = .int .i64 k∧Below w.heap.size w wr∧Below w5.heap.size w5 wr) (fun i _=>ls.length-(intOf i).toNat)
 all_goals first|(case atStart=>exact⟨0,by omega,rfl,blw,Below.refl _ _⟩)|skip
 all_goals
  obtain⟨k,hk,rfl,A2,A1⟩:=hrel
  by_cases hlt:k<ls.length
  ·obtain⟨b,hb⟩:∃b,ls[k]?=some b:=⟨_,List.getElem?_eq_getElem hlt⟩
   obtain⟨kn,hin⟩:=HB.out k b hb
   obtain⟨a,ha,hal,hE⟩:=r5.get k b hb
   subst ha
   obtain⟨E1,E2,E3,E4,E5⟩:=boxAt.bel hE A1 hal
   obtain⟨d,hd,hc⟩:=(HZ.out.bel A2).get k kn
   subst hd
   have c2:=hc 2 (by decide)
   rw[← add_off2']at c2
   have hlt2:(k:Int)<ls.length:=by omega
   have kn2:(k:Int)<n:=by omega
   have WI:=Lib.hid (fun w=>r7within_is (Z k 2) b.tl b.th true w hin)
   clear hE hc hb E1 E2 E5 HB hal
   generalize Z k 2=t at *
   generalize b.tl=x at *
   generalize b.th=y at *
   generalize ls.length=m at *
   go_wp2_with fail
   refine calm_all (by kernel_rfl) (by kernel_rfl) fun hG => ?_
   have A3:=hG_at hG (p:=⟨(d.add (k*3)).block,(d.add (k*3)).off+2,none⟩) (v := .int .i64 t) (by first|exact c2|(simp[*,go_sem];done))
   have A4:=hG_at hG (p:=⟨(a.add (k*5)).block,(a.add (k*5)).off+2,none⟩) (v := .int .i64 x) (by first|exact E3|(simp[*,go_sem];done))
   have A5:=hG_at hG (p:=⟨(a.add (k*5)).block,(a.add (k*5)).off+3,none⟩) (v := .int .i64 y) (by first|exact E4|(simp[*,go_sem];done))
   clear hG
   repeat (go_big_quiet_step (first|(go_at_call 21;with_reducible exact calm_same WI.out)))
   refine wpQuiet_nil ?_
   intro w7 Aa
   clear A3 A4 A5
   go_wp2_with fail
   go_roundw
   case rel=>exact⟨k+1,by omega,by first|(simp;done)|(simp;omega),blw,blw⟩
   case measure=>simp[intOf];omega
  ·have hlt2:¬(k:Int)<ls.length:=by omega
   clear HB
   generalize ls.length=m at *
   go_wp2
   go_ret
   exact⟨rfl,blw⟩
end Go.Proofs.YtnljkhlmdacfaaaGreatDoor
