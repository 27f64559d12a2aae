/- The ways in which a cut may end. -/
import Derived.Test.YtjbfaaolfonmaaaGreatKHalf
namespace Go.Proofs.YtjbfaaolfonmaaaGreat
open Go Go.Sort Go.RowKit
@[irreducible] def cutQ (ls:List Box) (d:Int):Int:=if inR d 0 (2*ls.length-1)=true then(if dLo ls d.toNat<dHi ls d.toNat then 0 else 24)else 6
@[irreducible] def cutA (ls:List Box) (d:Int):List Box:=if cutQ ls d=0 then lowHalf ls d.toNat else []
@[irreducible] def cutB (ls:List Box) (d:Int):List Box:=if cutQ ls d=0 then highHalf ls d.toNat else []
theorem cut_cases {ls:List Box} (hq:checkQ ls=0) (d:Int) :
  (inR d 0 (2*ls.length-1)=false∧cutQ ls d=6∧cutA ls d = []∧cutB ls d = [])∨∃(e:Nat) (b:Box),d=e∧ls[e/2]?=some b∧BoxOk b ∧
   ((b.dlo e=b.dhi e∧cutQ ls d=24∧cutA ls d = []∧cutB ls d = [])∨(b.dlo e<b.dhi e∧cutQ ls d=0∧cutA ls d=lowHalf ls e∧cutB ls d=highHalf ls e)):=by
 cases h:inR d 0 (2*ls.length-1)
 ·have e:cutQ ls d=6:=by unfold cutQ;rw[h];rfl
  exact .inl ⟨rfl,e,by unfold cutA;rw[e];rfl,by unfold cutB;rw[e];rfl⟩
 ·obtain⟨h1,h2⟩:=inR_yes.1 h
  obtain⟨e,rfl⟩:∃e:Nat,d=e:=⟨d.toNat,by omega⟩
  have hl:e/2<ls.length:=by omega
  have hb:ls[e/2]?=some ls[e/2]:=List.getElem?_eq_getElem hl
  have hk:=(checkQ_zero hq).1 _ (List.mem_of_getElem? hb)
  refine .inr ⟨e,_,rfl,hb,hk,?_⟩
  have bd:=dlo_bd hk e
  have ex:cutQ ls e=if (ls[e/2]).dlo e<(ls[e/2]).dhi e then 0 else 24:=by unfold cutQ;rw[h,if_pos rfl,Int.toNat_natCast,dLo_is hb,dHi_is hb]
  by_cases hlt:(ls[e/2]).dlo e<(ls[e/2]).dhi e
  ·rw[if_pos hlt]at ex
   exact .inr ⟨hlt,ex,by unfold cutA;rw[ex,if_pos rfl,Int.toNat_natCast],by unfold cutB;rw[ex,if_pos rfl,Int.toNat_natCast]⟩
  ·rw[if_neg hlt]at ex
   exact .inl ⟨by omega,ex,by unfold cutA;rw[ex];rfl,by unfold cutB;rw[ex];rfl⟩
end Go.Proofs.YtjbfaaolfonmaaaGreat
