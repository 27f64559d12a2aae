/- The ask from the other side, exactly; from there the other side is the ask again. -/
import Derived.Test.YtnljkhlmdacfaaaGreatDoorOpenBad
import Derived.Test.YtnljkhlmdacfaaaGreatDoorKOther
import Derived.Test.YtnljkhlmdacfaaaGreatDoorKCopy
namespace Go.Proofs.YtnljkhlmdacfaaaGreatDoor
open Go Go.Sort Go.RowKit
theorem ckQ_m (A:Ask) (p:Option Addr) (c:Nat):ckQ (A.mv p c)=ckQ A:=by unfold ckQ;rfl
theorem otherQ_mv (A:Ask) (p:Option Addr) (c:Nat):otherQ (A.mv p c)=otherQ A:=by unfold otherQ;rfl
theorem other_twice {A:Ask} (hA:AskOk A) (h:otherQ A=0) (p:Option Addr) (c:Nat):otherQ (other A p c)=0∧∀q d,other (other A p c) q d=A.mv q d:=by
 obtain⟨h1,h2,h3,h4⟩:=otherQ_zero h
 have i0:=hA.i0
 have s2:=hA.s2
 have e1:A.oi*(A.ix*A.sl/A.oi)=A.ix*A.sl:=Int.mul_ediv_cancel' (Int.dvd_of_emod_eq_zero h2)
 have e2:A.oi*(A.ix*A.sh/A.oi)=A.ix*A.sh:=Int.mul_ediv_cancel' (Int.dvd_of_emod_eq_zero h3)
 have d1:A.ix*A.sl/A.ix=A.sl:=Int.mul_ediv_cancel_left _ (by omega)
 have d2:A.ix*A.sh/A.ix=A.sh:=Int.mul_ediv_cancel_left _ (by omega)
 constructor
 ·refine otherQ_4 rfl ⟨?_,?_⟩ ?_
  ·show(A.oi*(A.ix*A.sl/A.oi))%A.ix=0
   rw[e1]
   exact Int.mul_emod_right _ _
  ·show(A.oi*(A.ix*A.sh/A.oi))%A.ix=0
   rw[e2]
   exact Int.mul_emod_right _ _
  ·show¬10000≤A.oi*(A.ix*A.sh/A.oi)/A.ix
   rw[e2,d2]
   omega
 ·intro q d
  unfold other Ask.mv
  simp only[e1,e2,d1,d2,List.reverse_reverse,h1]
def SideRet (A:Ask) (N:Nat) (e:Ending) (w':World):Prop :=
 (¬ckQ A=0∧e = .returned (.tuple #[zeroAsk,.int .i64 (ckQ A)]))∨(AskOk A∧ckQ A=0∧¬otherQ A=0∧e = .returned (.tuple #[zeroAsk,.int .i64 (otherQ A)])) ∨
  (AskOk A∧ckQ A=0∧otherQ A=0∧∃p c',e = .returned (.tuple #[(other A (some p) c').val,.int .i64 0])∧Row (some p) A.ls.reverse w'∧N≤p.block∧p.block<w'.heap.size)
theorem OtherSide_at (A:Ask) (g c:Nat) (w:World) (hr:Row (some ⟨g,0,none⟩) A.ls w) :
  Calls Tryz.prog 51 #[(A.mv (some ⟨g,0,none⟩) c).val] w fun e w'=>SideRet A w.heap.size e w'∧Below w.heap.size w w':=by
 by_cases h:ckQ A=0
 ·have ok:=ckQ_ok ((ckQ_m A (some ⟨g,0,none⟩) c).trans h)
  have oA:=ask_mv_ok ok
  have e1:=otherQ_mv A (some ⟨g,0,none⟩) c
  by_cases k:otherQ A=0
  ·refine(OtherSide_yes _ ok _ rfl w hr (e1.trans k)).mono ?_
   rintro e w' ⟨p,c',rfl,h1,h2,h3,h4⟩
   exact⟨.inr (.inr ⟨oA,h,k,p,c',rfl,h1,h2,h3⟩),h4⟩
  ·refine(OtherSide_no _ ok w hr _ e1 k).mono ?_
   rintro e w' ⟨rfl,h4⟩
   exact⟨.inr (.inl ⟨oA,h,k,rfl⟩),h4⟩
 ·refine(OtherSide_bad _ w hr (by rw[ckQ_m];exact h)).mono ?_
  rw[ckQ_m]
  rintro e w' ⟨rfl,h4⟩
  exact⟨.inl ⟨h,rfl⟩,h4⟩
def noAsk:Ask:=⟨0,0,0,0,0,0,[],0,0,none,0⟩
theorem noAsk_val:noAsk.val=zeroAsk:=rfl
end Go.Proofs.YtnljkhlmdacfaaaGreatDoor
