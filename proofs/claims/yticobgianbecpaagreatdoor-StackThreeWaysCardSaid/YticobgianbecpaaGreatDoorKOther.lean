/- Joined: Rev Other Other2. -/
import Derived.Test.YticobgianbecpaaGreatDoorKFit
import Derived.Shelf.SlicesQ.Reverse
import Derived.Ground.SlgnProg
import Derived.Lib.OwnBridge
import Derived.Test.YticobgianbecpaaGreatDoorKAsk
import Derived.Test.YticobgianbecpaaGreatDoorKRefl
import Derived.Deep.RegionHeld3
import Derived.BigRegion
namespace Go.Proofs.YticobgianbecpaaGreatDoor
open Go Go.Sort Go.RowKit Go.Shelf Go.Lib
instance:Inhabited Box:=⟨⟨0,0,0,0,0⟩⟩
theorem five_len (b:Box):b.five.length=5:=rfl
theorem five_one:∀b:Box,∀v∈b.five,v.oneCell'=true:=by
 intro b v hv
 unfold Box.five at hv
 simp only[List.mem_cons,List.not_mem_nil,or_false]at hv
 rcases hv with rfl|rfl|rfl|rfl|rfl<;>rfl
theorem holds_boxes {ls:List Box}{N g:Nat}{w:World} (h:OwnBox ls N g w):HoldsK Box.five 5 w g 0 ls.toArray:=by
 intro j hj
 rw[size_flatK]at hj
 simp only[List.size_toArray]at hj
 refine⟨?_,h.free _⟩
 rw[get_flatK _ _ _ _ (by simpa using hj)]
 have hq:j/5<ls.length:=Nat.div_lt_of_lt_mul (by omega)
 have hr:j%5<5:=Nat.mod_lt _ (by decide)
 have hb:=h.at' (j/5) ls[j/5] (List.getElem?_eq_getElem hq)
 have:=boxAt_five.1 hb (j%5) hr
 rw[add_more]at this
 have e:j/5*5+j%5=j:=by omega
 rw[e,Addr.add_lit]at this
 rw[this]
 have e2 : ls.toArray[j / 5]! = ls[j / 5] := by rw [getElem!_pos _ _ (by simpa using hq)]; simp
 rw[e2,getElem!_pos _ _ (by rw[five_len];exact hr),List.getElem?_eq_getElem (by rw[five_len];exact hr)]
 rfl
theorem row_boxes {ls:List Box}{g:Nat}{w:World} (h:HoldsK Box.five 5 w g 0 ls.toArray) (hg:g<w.heap.size):Row (some ⟨g,0,none⟩) ls w:=by
 refine⟨fun j b hj=>⟨_,rfl,by rw[block_add];exact hg,boxAt_five.2 fun i hi => ?_⟩⟩
 obtain⟨hl,e⟩:=List.getElem?_eq_some_iff.1 hj
 have:=(HoldsK.cell h (i:=j) (c:=i) (by simpa using hl) hi).1
 rw[add_more,Addr.add_lit]
 simp only[Nat.zero_add]at this ⊢
 rw[this]
 have e2 : ls.toArray[j]! = b := by rw [getElem!_pos _ _ (by simpa using hl)]; simpa using e
 rw[e2,getElem!_pos _ _ (by rw[five_len];exact hi),List.getElem?_eq_getElem (by rw[five_len];exact hi)]
@[go_sem high] theorem run_nil_boxes (a:Addr) (n cap:Nat) (w:World):(binOp .eql 24 (.slice (some a) n cap) (.slice none 0 0)).run Tryz.prog w = .ok (.bool false) w:=by kernel_rfl
end Go.Proofs.YticobgianbecpaaGreatDoor
namespace Go.Proofs.YticobgianbecpaaGreatDoor
open Go Go.Sort Go.RowKit
@[irreducible] def otherQ (A:Ask):Int :=
 if A.ol=0 then(if (A.ix*A.sl)%A.oi=0∧(A.ix*A.sh)%A.oi=0 then(if 10000≤A.ix*A.sh/A.oi then 2 else 0)else 25)else 11
def other (A:Ask) (p:Option Addr) (c:Nat):Ask:=⟨A.oi,A.ix*A.sl/A.oi,A.ix*A.sh/A.oi,A.po,A.wl,A.wh,A.ls.reverse,A.ix,0,p,c⟩
theorem otherQ_1 {A:Ask} (h:¬A.ol=0):otherQ A=11:=by unfold otherQ;rw[if_neg h]
theorem otherQ_2 {A:Ask} (h:A.ol=0) (k:¬((A.ix*A.sl)%A.oi=0∧(A.ix*A.sh)%A.oi=0)):otherQ A=25:=by unfold otherQ;rw[if_pos h,if_neg k]
theorem otherQ_3 {A:Ask} (h:A.ol=0) (k:(A.ix*A.sl)%A.oi=0∧(A.ix*A.sh)%A.oi=0) (l:10000≤A.ix*A.sh/A.oi):otherQ A=2:=by unfold otherQ;rw[if_pos h,if_pos k,if_pos l]
theorem otherQ_4 {A:Ask} (h:A.ol=0) (k:(A.ix*A.sl)%A.oi=0∧(A.ix*A.sh)%A.oi=0) (l:¬10000≤A.ix*A.sh/A.oi):otherQ A=0:=by unfold otherQ;rw[if_pos h,if_pos k,if_neg l]
theorem otherQ_zero {A:Ask} (h:otherQ A=0):A.ol=0∧(A.ix*A.sl)%A.oi=0∧(A.ix*A.sh)%A.oi=0∧A.ix*A.sh/A.oi≤9999:=by
 unfold otherQ at h
 split at h
 case isFalse=>exact absurd h (by decide)
 split at h
 case isFalse=>exact absurd h (by decide)
 split at h
 ·exact absurd h (by decide)
 ·rename_i a b c
  exact⟨a,b.1,b.2,by omega⟩
def zeroAsk:Value := .agg #[.int .i64 0,.int .i64 0,.int .i64 0,.int .i64 0,.int .i64 0,.int .i64 0,.slice none 0 0,.int .i64 0,.int .i64 0]
theorem mul_side {A:Ask} (hA:AskOk A){s:Int} (h0:0≤s) (h1:s≤9999):0≤A.ix*s∧A.ix*s≤799920000:=by
 have a:=Int.mul_nonneg (show 0≤A.ix by have:=hA.i0;omega) h0
 have b:=Int.mul_le_mul hA.i1 h1 h0 (by decide)
 exact⟨a,Int.le_trans b (by decide)⟩
end Go.Proofs.YticobgianbecpaaGreatDoor
namespace Go.Proofs.YticobgianbecpaaGreatDoor
open Go Go.Sort Go.RowKit
structure Sides (ix sl sh oi X Y:Int):Prop where
 hX:ix*sl=X
 hY:ix*sh=Y
 x0:0≤X
 x1:X≤799920000
 y0:0≤Y
 y1:Y≤799920000
 o0:5000≤oi
 o1:oi≤80000
theorem sides_of {A:Ask} (hA:AskOk A):Sides A.ix A.sl A.sh A.oi (A.ix*A.sl) (A.ix*A.sh) :=
 ⟨rfl,rfl,(mul_side hA hA.s0 (by have:=hA.s1;have:=hA.s2;omega)).1,(mul_side hA hA.s0 (by have:=hA.s1;have:=hA.s2;omega)).2,
  (mul_side hA (by have:=hA.s0;have:=hA.s1;omega) hA.s2).1,(mul_side hA (by have:=hA.s0;have:=hA.s1;omega) hA.s2).2,hA.oi0,hA.oi1⟩
theorem other_ok {A:Ask} (hA:AskOk A) (h:otherQ A=0) (p:Option Addr) (c:Nat):AskOk (other A p c):=by
 obtain⟨h1,h2,h3,h4⟩:=otherQ_zero h
 have o0:=hA.oi0
 have S:=sides_of hA
 unfold other
 refine⟨hA.oi0,hA.oi1,Int.ediv_nonneg S.x0 (by omega),Int.ediv_le_ediv (by omega) ?_,h4,hA.p0,hA.w0,hA.w1,hA.w2,fun b hb=>hA.ls b (List.mem_reverse.1 hb),by simpa using hA.len,hA.i0,hA.i1,Int.le_refl _,(by decide:(0:Int)≤80000)⟩
 exact Int.mul_le_mul_of_nonneg_left hA.s1 (by have:=hA.i0;omega)
theorem boxAt.keep {g k:Nat}{b:Box}{w w':World} (h:boxAt w ((⟨g,0,none⟩:Addr).add k) b) (hc:∀o,w'.cell? ⟨g,o,none⟩=w.cell? ⟨g,o,none⟩):boxAt w' ((⟨g,0,none⟩:Addr).add k) b:=by
 rw[boxAt_five]at h ⊢
 intro i hi
 rw[← h i hi,add_more,Addr.add_lit]
 exact hc _
theorem Row.keep {g:Nat}{ls:List Box}{w w':World} (h:Row (some ⟨g,0,none⟩) ls w) (hs:w.heap.size≤w'.heap.size) (hc:∀o,w'.cell? ⟨g,o,none⟩=w.cell? ⟨g,o,none⟩):Row (some ⟨g,0,none⟩) ls w' :=
 ⟨fun j b hj=>by obtain⟨a,h1,h2,h3⟩:=h.get j b hj;cases h1;exact⟨_,rfl,Nat.lt_of_lt_of_le h2 hs,h3.keep hc⟩⟩
theorem OwnBox.keep {g N:Nat}{ls:List Box}{w w':World} (h:OwnBox ls N g w) (hs:w.heap.size≤w'.heap.size) (hc:∀o,w'.cell? ⟨g,o,none⟩=w.cell? ⟨g,o,none⟩) (hf:∀o,w'.frozen? ⟨g,o,none⟩=w.frozen? ⟨g,o,none⟩):OwnBox ls N g w' :=
 ⟨h.lo,Nat.lt_of_lt_of_le h.hi hs,fun j b hj=>(h.at' j b hj).keep hc,fun o=>(hf o).trans (h.free o)⟩
end Go.Proofs.YticobgianbecpaaGreatDoor
