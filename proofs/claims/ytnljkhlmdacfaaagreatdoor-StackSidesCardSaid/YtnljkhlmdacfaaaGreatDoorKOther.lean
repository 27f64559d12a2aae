/- Joined: Rev Other Other2. -/
import Derived.Test.YtnljkhlmdacfaaaGreatDoorKFit
import Derived.Shelf.SlicesQ.Reverse
import Derived.Ground.SlgnProg
import Derived.Lib.OwnBridge
import Derived.Test.YtnljkhlmdacfaaaGreatDoorKAsk
import Derived.Test.YtnljkhlmdacfaaaGreatDoorKRefl
import Derived.Deep.RegionHeld3
import Derived.BigRegion
namespace Go.Proofs.YtnljkhlmdacfaaaGreatDoor
open Go Go.Sort Go.RowKit Go.Shelf Go.Lib
instance:Inhabited Box:=⟨⟨0,0,0,0,0⟩⟩
theorem five_len (b:Box):b.five.length=5:=rfl
theorem five_one:∀b:Box,∀v∈b.five,v.oneCell'=true:=by
 intro b v hv
 unfold Box.five at hv
 simp only[List.mem_cons,List.not_mem_nil,or_false]at hv
 rcases hv with rfl|rfl|rfl|rfl|rfl<;>rfl
theorem holds_boxes {ls:List Box}{N g:Nat}{w:World} (h:OwnBox ls N g w):HoldsK Box.five 5 w g 0 ls.toArray:=by
 intro j hj
 rw[size_flatK]at hj
 simp only[List.size_toArray]at hj
 refine⟨?_,h.free _⟩
 rw[get_flatK _ _ _ _ (by simpa using hj)]
 have hq:j/5<ls.length:=Nat.div_lt_of_lt_mul (by omega)
 have hr:j%5<5:=Nat.mod_lt _ (by decide)
 have hb:=h.at' (j/5) ls[j/5] (List.getElem?_eq_getElem hq)
 have:=boxAt_five.1 hb (j%5) hr
 rw[add_more]at this
 have e:j/5*5+j%5=j:=by omega
 rw[e,Addr.add_lit]at this
 rw[this]
 have e2 : ls.toArray[j / 5]! = ls[j / 5] := by rw [getElem!_pos _ _ (by simpa using hq)]; simp
 rw[e2,getElem!_pos _ _ (by rw[five_len];exact hr),List.getElem?_eq_getElem (by rw[five_len];exact hr)]
 rfl
theorem row_boxes {ls:List Box}{g:Nat}{w:World} (h:HoldsK Box.five 5 w g 0 ls.toArray) (hg:g<w.heap.size):Row (some ⟨g,0,none⟩) ls w:=by
 refine⟨fun j b hj=>⟨_,rfl,by rw[block_add];exact hg,boxAt_five.2 fun i hi => ?_⟩⟩
 obtain⟨hl,e⟩:=List.getElem?_eq_some_iff.1 hj
 have:=(HoldsK.cell h (i:=j) (c:=i) (by simpa using hl) hi).1
 rw[add_more,Addr.add_lit]
 simp only[Nat.zero_add]at this ⊢
 rw[this]
 have e2 : ls.toArray[j]! = b := by rw [getElem!_pos _ _ (by simpa using hl)]; simpa using e
 rw[e2,getElem!_pos _ _ (by rw[five_len];exact hi),List.getElem?_eq_getElem (by rw[five_len];exact hi)]
shelf_lay_g SlLaysE0.n35 Slgn 35 at Tryz 123 as l_rev
theorem Reverse_any (g cap N:Nat) (ls:List Box) (w:World) (h:OwnBox ls N g w) (hl:ls.length≤1000) :
  Calls Tryz.prog 123 #[.slice (some ⟨g,0,none⟩) ls.length cap] w fun e w'=>e = .returned (.tuple #[])∧Row (some ⟨g,0,none⟩) ls.reverse w'∧Below N w w':=by
 have c:=AnyQ.slices_Reverse l_rev 5 Tryz.isAgg52 Tryz.sizeOf52 Box.five five_len five_one g 0 cap ls.toArray w (holds_boxes h) (by simp;omega)
 simp only[List.size_toArray]at c
 refine c.mono ?_
 rintro e w' ⟨rfl,n,rfl⟩
 have hb:Below N w (putRowK Box.five 5 (Sort.ahead w n) g 0 ls.toArray.reverse):=below_putRow (Below.refl _ _) h.lo
 refine⟨rfl,?_,hb⟩
 have hh:=holdsK_putRowK Box.five 5 (Sort.ahead w n) g 0 ls.toArray ls.toArray.reverse (holdsK_ahead Box.five 5 w n g 0 _ (holds_boxes h)) (by simp)
 refine row_boxes ?_ (Nat.lt_of_lt_of_le h.hi hb.size)
 simpa using hh
@[go_sem high] theorem run_nil_boxes (a:Addr) (n cap:Nat) (w:World):(binOp .eql 24 (.slice (some a) n cap) (.slice none 0 0)).run Tryz.prog w = .ok (.bool false) w:=by kernel_rfl
set_option maxHeartbeats 1000000 in
theorem cloneBoxes_any (a:Addr) (ls:List Box) (cap:Nat) (w:World) (hr:Row (some a) ls w) (hn:ls.length≤1000) :
  Calls Tryz.prog 122 #[.slice (some a) ls.length cap] w fun E w'=>Copied ls ls.length w E w':=by
 have hc:=hr.cells
 obtain⟨i,hi,hz0,hz1,hz2⟩:=box_info
 have hl:=cellsOf_len ls
 have b1:0+ls.length≤maxLen:=by unfold maxLen;omega
 have b2:(0+ls.length)*40≤140737488355328:=by omega
 have b3:w.heap.size≤(w.alloc (.cells #[] 52)).heap.size:=by simp
 clear hr hn
 generalize hN:ls.length=n at *
 have H:=Lib.hid (And.intro hl (And.intro b1 (And.intro b2 b3)))
 clear hl b1 b2 b3
 go_enter Tryz.func122,Tryz.ntmps122
 go_wp2_with (at_builtin;refine wpList_append_own _ rfl _ _ 24 rfl w.heap.size 52 i _ 5 40 Tryz.underlying24 hi hz0 hz1 hz2 rfl (by decide) _ 0 [] rfl (World.ownsRow_made w #[] 0 (Nat.le_refl _) (by decide) rfl) a n cap (cellsOf ls) rfl H.out.1 (copy_cells hc _) (cellsOf_one ls) H.out.2.1 H.out.2.2.1 H.out.2.2.2 ?_)
 intro v' w1 hown hgrow hnil
 have K:=Lib.hid (copied_of hown hgrow hnil hN)
 clear hown hgrow hnil hc hi hz0 hz1 hz2 H hN
 go_wp2
 refine bodyPost_ret (by simp[results,Tryz.results122,go_sem, *];first|done|rfl) rfl ?_
 exact K.out
end Go.Proofs.YtnljkhlmdacfaaaGreatDoor
namespace Go.Proofs.YtnljkhlmdacfaaaGreatDoor
open Go Go.Sort Go.RowKit
@[irreducible] def otherQ (A:Ask):Int :=
 if A.ol=0 then(if (A.ix*A.sl)%A.oi=0∧(A.ix*A.sh)%A.oi=0 then(if 10000≤A.ix*A.sh/A.oi then 2 else 0)else 25)else 11
def other (A:Ask) (p:Option Addr) (c:Nat):Ask:=⟨A.oi,A.ix*A.sl/A.oi,A.ix*A.sh/A.oi,A.po,A.wl,A.wh,A.ls.reverse,A.ix,0,p,c⟩
theorem otherQ_1 {A:Ask} (h:¬A.ol=0):otherQ A=11:=by unfold otherQ;rw[if_neg h]
theorem otherQ_2 {A:Ask} (h:A.ol=0) (k:¬((A.ix*A.sl)%A.oi=0∧(A.ix*A.sh)%A.oi=0)):otherQ A=25:=by unfold otherQ;rw[if_pos h,if_neg k]
theorem otherQ_3 {A:Ask} (h:A.ol=0) (k:(A.ix*A.sl)%A.oi=0∧(A.ix*A.sh)%A.oi=0) (l:10000≤A.ix*A.sh/A.oi):otherQ A=2:=by unfold otherQ;rw[if_pos h,if_pos k,if_pos l]
theorem otherQ_4 {A:Ask} (h:A.ol=0) (k:(A.ix*A.sl)%A.oi=0∧(A.ix*A.sh)%A.oi=0) (l:¬10000≤A.ix*A.sh/A.oi):otherQ A=0:=by unfold otherQ;rw[if_pos h,if_pos k,if_neg l]
theorem otherQ_zero {A:Ask} (h:otherQ A=0):A.ol=0∧(A.ix*A.sl)%A.oi=0∧(A.ix*A.sh)%A.oi=0∧A.ix*A.sh/A.oi≤9999:=by
 unfold otherQ at h
 split at h
 case isFalse=>exact absurd h (by decide)
 split at h
 case isFalse=>exact absurd h (by decide)
 split at h
 ·exact absurd h (by decide)
 ·rename_i a b c
  exact⟨a,b.1,b.2,by omega⟩
def zeroAsk:Value := .agg #[.int .i64 0,.int .i64 0,.int .i64 0,.int .i64 0,.int .i64 0,.int .i64 0,.slice none 0 0,.int .i64 0,.int .i64 0]
set_option maxHeartbeats 4000000 in
theorem OtherSide_bad (A:Ask) (w:World) (hr:Row A.pa A.ls w) (h:¬ckQ A=0) :
  Calls Tryz.prog 51 #[A.val] w fun e w'=>e = .returned (.tuple #[zeroAsk,.int .i64 (ckQ A)])∧Below w.heap.size w w':=by
 have CK:=fun w hr=>CheckAsk_any A w hr
 unfold Ask.val at CK ⊢
 generalize ckI A=I at *
 generalize ckQ A=Q at *
 unfold zeroAsk
 have CK:=Lib.hid CK
 have HR:=Lib.hid hr
 clear hr
 go_enter Tryz.func51,Tryz.ntmps51
 go_wp2_with fail
 refine(CK.out _ (HR.out.bel blw)).mono ?_
 rintro e w1 ⟨rfl,A0⟩
 have A1:=A0.size
 (try simp at A1)
 have A2:=bl5 A0 (w.heap.size+1)
 repeat' (first|go_values|go_skip|go_guarded|go_step|go_upon|(simp only[];go_simp))
 refine bodyPost_ret (by simp[results,Tryz.results51,go_sem, *];first|done|rfl) rfl ?_
 exact⟨rfl,blw⟩
theorem mul_side {A:Ask} (hA:AskOk A){s:Int} (h0:0≤s) (h1:s≤9999):0≤A.ix*s∧A.ix*s≤799920000:=by
 have a:=Int.mul_nonneg (show 0≤A.ix by have:=hA.i0;omega) h0
 have b:=Int.mul_le_mul hA.i1 h1 h0 (by decide)
 exact⟨a,Int.le_trans b (by decide)⟩
end Go.Proofs.YtnljkhlmdacfaaaGreatDoor
namespace Go.Proofs.YtnljkhlmdacfaaaGreatDoor
open Go Go.Sort Go.RowKit
structure Sides (ix sl sh oi X Y:Int):Prop where
 hX:ix*sl=X
 hY:ix*sh=Y
 x0:0≤X
 x1:X≤799920000
 y0:0≤Y
 y1:Y≤799920000
 o0:5000≤oi
 o1:oi≤80000
theorem sides_of {A:Ask} (hA:AskOk A):Sides A.ix A.sl A.sh A.oi (A.ix*A.sl) (A.ix*A.sh) :=
 ⟨rfl,rfl,(mul_side hA hA.s0 (by have:=hA.s1;have:=hA.s2;omega)).1,(mul_side hA hA.s0 (by have:=hA.s1;have:=hA.s2;omega)).2,
  (mul_side hA (by have:=hA.s0;have:=hA.s1;omega) hA.s2).1,(mul_side hA (by have:=hA.s0;have:=hA.s1;omega) hA.s2).2,hA.oi0,hA.oi1⟩
set_option maxHeartbeats 4000000 in
theorem OtherSide_no (A:Ask) (hA:AskOk A) (w:World) (hr:Row A.pa A.ls w) (q:Int) (hq:otherQ A=q) (h:¬q=0) :
  Calls Tryz.prog 51 #[A.val] w fun e w'=>e = .returned (.tuple #[zeroAsk,.int .i64 q])∧Below w.heap.size w w':=by
 have CK:=Lib.hid (fun w hr=>CheckAsk_yes A hA w hr)
 have HR:=Lib.hid hr
 have S:=sides_of hA
 have Q1:=Lib.hid (@otherQ_1 A)
 have Q2:=Lib.hid (@otherQ_2 A)
 have Q3:=Lib.hid (@otherQ_3 A)
 have ZZ:=Lib.hid (@otherQ_4 A)
 have Q4:¬otherQ A=0:=by rw[hq];exact h
 generalize otherQ A=Q at *
 subst hq
 clear h hA hr
 unfold zeroAsk
 unfold Ask.val at CK ⊢
 generalize A.ix*A.sl=X at *
 generalize A.ix*A.sh=Y at *
 generalize A.ls.length=len at *
 obtain⟨hX,hY,x0,x1,y0,y1,o0,o1⟩:=S
 have kw1:IntKind.i64.wrap X=X:=IntWalk.i64_in _ ⟨by omega,by omega⟩
 have kw2:IntKind.i64.wrap Y=Y:=IntWalk.i64_in _ ⟨by omega,by omega⟩
 have kw3:wrap64 X=X:=IntWalk.wrap64_in _ ⟨by omega,by omega⟩
 have kw4:wrap64 Y=Y:=IntWalk.wrap64_in _ ⟨by omega,by omega⟩
 have m1:X.tmod A.oi=X%A.oi:=Int.tmod_eq_emod_of_nonneg x0
 have m2:Y.tmod A.oi=Y%A.oi:=Int.tmod_eq_emod_of_nonneg y0
 have on:¬A.oi=0:=by omega
 have d2:IntKind.i64.wrap (Y.tdiv A.oi)=Y/A.oi:=IntWalk.i64_quo _ _ ⟨y0,by omega,by omega⟩
 have d4:Y.tdiv A.oi=Y/A.oi:=Int.tdiv_eq_ediv_of_nonneg y0
 have hd:=Int.ediv_nonneg y0 (show 0≤A.oi by omega)
 have hd1:Y/A.oi≤Y:=Int.ediv_le_self _ y0
 generalize X%A.oi=U at *
 generalize Y%A.oi=V at *
 generalize Y/A.oi=T at *
 have d6:wrap64 T=T:=IntWalk.wrap64_in _ ⟨by omega,by omega⟩
 have d7:IntKind.i64.wrap T=T:=IntWalk.i64_in _ ⟨by omega,by omega⟩
 by_cases c1:A.ol=0
 case neg =>
  have:=Q1.out c1
  subst this
  clear Q2 Q3
  go_enter Tryz.func51,Tryz.ntmps51
  go_wp2_with fail
  refine(CK.out _ (HR.out.bel blw)).mono ?_
  rintro e w1 ⟨rfl,A0⟩
  have A1:=A0.size
  (try simp at A1)
  have A4:=bl5 A0 (w.heap.size)
  have A2:=bl5 A0 (w.heap.size+1)
  go_wp2_with fail
  go_region_held3 (fun w'=>w'.cell? ⟨w.heap.size,0,none⟩=some (Value.int .i64 A.ix)∧w'.cell? ⟨w.heap.size,1,none⟩=some (Value.int .i64 A.sl)∧w'.cell? ⟨w.heap.size,2,none⟩=some (Value.int .i64 A.sh)) (simp[*,go_sem]) (fail)
  repeat' (first|go_values|go_skip|go_guarded|go_step|go_upon|(simp only[];go_simp))
  refine bodyPost_ret (by simp[results,Tryz.results51,go_sem, *];first|done|rfl) rfl ?_
  exact⟨rfl,blw⟩
 rw[c1]at CK ⊢
 by_cases c2:U=0
 case neg =>
  have:=Q2.out c1 (fun h=>c2 h.1)
  subst this
  clear Q1 Q3
  go_enter Tryz.func51,Tryz.ntmps51
  go_wp2_with fail
  refine(CK.out _ (HR.out.bel blw)).mono ?_
  rintro e w1 ⟨rfl,A0⟩
  have A1:=A0.size
  (try simp at A1)
  have A4:=bl5 A0 (w.heap.size)
  have A2:=bl5 A0 (w.heap.size+1)
  go_wp2_with fail
  go_region_held3 (fun w'=>w'.cell? ⟨w.heap.size,0,none⟩=some (Value.int .i64 A.ix)∧w'.cell? ⟨w.heap.size,1,none⟩=some (Value.int .i64 A.sl)∧w'.cell? ⟨w.heap.size,2,none⟩=some (Value.int .i64 A.sh)) (simp[*,go_sem]) (fail)
  repeat' (first|go_values|go_skip|go_guarded|go_step|go_upon|(simp only[];go_simp))
  refine bodyPost_ret (by simp[results,Tryz.results51,go_sem, *];first|done|rfl) rfl ?_
  exact⟨rfl,blw⟩
 by_cases c3:V=0
 case neg =>
  have:=Q2.out c1 (fun h=>c3 h.2)
  subst this
  clear Q1 Q3
  go_enter Tryz.func51,Tryz.ntmps51
  go_wp2_with fail
  refine(CK.out _ (HR.out.bel blw)).mono ?_
  rintro e w1 ⟨rfl,A0⟩
  have A1:=A0.size
  (try simp at A1)
  have A4:=bl5 A0 (w.heap.size)
  have A2:=bl5 A0 (w.heap.size+1)
  go_wp2_with fail
  go_region_held3 (fun w'=>w'.cell? ⟨w.heap.size,0,none⟩=some (Value.int .i64 A.ix)∧w'.cell? ⟨w.heap.size,1,none⟩=some (Value.int .i64 A.sl)∧w'.cell? ⟨w.heap.size,2,none⟩=some (Value.int .i64 A.sh)) (simp[*,go_sem]) (fail)
  repeat' (first|go_values|go_skip|go_guarded|go_step|go_upon|(simp only[];go_simp))
  refine bodyPost_ret (by simp[results,Tryz.results51,go_sem, *];first|done|rfl) rfl ?_
  exact⟨rfl,blw⟩
 by_cases c4:10000≤T
 case neg=>exact absurd (ZZ.out c1 ⟨c2,c3⟩ c4) Q4
 have:=Q3.out c1 ⟨c2,c3⟩ c4
 subst this
 clear Q1 Q2
 go_enter Tryz.func51,Tryz.ntmps51
 go_wp2_with fail
 refine(CK.out _ (HR.out.bel blw)).mono ?_
 rintro e w1 ⟨rfl,A0⟩
 have A1:=A0.size
 (try simp at A1)
 have A4:=bl5 A0 (w.heap.size)
 have A2:=bl5 A0 (w.heap.size+1)
 go_wp2_with fail
 go_region_held3 (fun w'=>w'.cell? ⟨w.heap.size,0,none⟩=some (Value.int .i64 A.ix)∧w'.cell? ⟨w.heap.size,1,none⟩=some (Value.int .i64 A.sl)∧w'.cell? ⟨w.heap.size,2,none⟩=some (Value.int .i64 A.sh)) (simp[*,go_sem]) (fail)
 repeat' (first|go_values|go_skip|go_guarded|go_step|go_upon|(simp only[];go_simp))
 refine bodyPost_ret (by simp[results,Tryz.results51,go_sem, *];first|done|rfl) rfl ?_
 exact⟨rfl,blw⟩
theorem other_ok {A:Ask} (hA:AskOk A) (h:otherQ A=0) (p:Option Addr) (c:Nat):AskOk (other A p c):=by
 obtain⟨h1,h2,h3,h4⟩:=otherQ_zero h
 have o0:=hA.oi0
 have S:=sides_of hA
 unfold other
 refine⟨hA.oi0,hA.oi1,Int.ediv_nonneg S.x0 (by omega),Int.ediv_le_ediv (by omega) ?_,h4,hA.p0,hA.w0,hA.w1,hA.w2,fun b hb=>hA.ls b (List.mem_reverse.1 hb),by simpa using hA.len,hA.i0,hA.i1,Int.le_refl _,(by decide:(0:Int)≤80000)⟩
 exact Int.mul_le_mul_of_nonneg_left hA.s1 (by have:=hA.i0;omega)
theorem boxAt.keep {g k:Nat}{b:Box}{w w':World} (h:boxAt w ((⟨g,0,none⟩:Addr).add k) b) (hc:∀o,w'.cell? ⟨g,o,none⟩=w.cell? ⟨g,o,none⟩):boxAt w' ((⟨g,0,none⟩:Addr).add k) b:=by
 rw[boxAt_five]at h ⊢
 intro i hi
 rw[← h i hi,add_more,Addr.add_lit]
 exact hc _
theorem Row.keep {g:Nat}{ls:List Box}{w w':World} (h:Row (some ⟨g,0,none⟩) ls w) (hs:w.heap.size≤w'.heap.size) (hc:∀o,w'.cell? ⟨g,o,none⟩=w.cell? ⟨g,o,none⟩):Row (some ⟨g,0,none⟩) ls w' :=
 ⟨fun j b hj=>by obtain⟨a,h1,h2,h3⟩:=h.get j b hj;cases h1;exact⟨_,rfl,Nat.lt_of_lt_of_le h2 hs,h3.keep hc⟩⟩
theorem OwnBox.keep {g N:Nat}{ls:List Box}{w w':World} (h:OwnBox ls N g w) (hs:w.heap.size≤w'.heap.size) (hc:∀o,w'.cell? ⟨g,o,none⟩=w.cell? ⟨g,o,none⟩) (hf:∀o,w'.frozen? ⟨g,o,none⟩=w.frozen? ⟨g,o,none⟩):OwnBox ls N g w' :=
 ⟨h.lo,Nat.lt_of_lt_of_le h.hi hs,fun j b hj=>(h.at' j b hj).keep hc,fun o=>(hf o).trans (h.free o)⟩
set_option maxHeartbeats 4000000 in
theorem OtherSide_yes (A:Ask) (hA:AskOk A) (a:Addr) (ha:A.pa=some a) (w:World) (hr:Row A.pa A.ls w) (h:otherQ A=0) :
  Calls Tryz.prog 51 #[A.val] w fun e w'=>∃p c,e = .returned (.tuple #[(other A (some p) c).val,.int .i64 0])∧Row (some p) A.ls.reverse w'∧w.heap.size≤p.block∧p.block<w'.heap.size∧Below w.heap.size w w':=by
 have CK:=Lib.hid (fun w hr=>CheckAsk_yes A hA w hr)
 have HR:=Lib.hid hr
 have S:=sides_of hA
 have hlen:=hA.len
 have CL:=Lib.hid (fun(w:World) hr=>cloneBoxes_any a A.ls A.cap w hr (by omega))
 have RV:=Lib.hid (fun g cap N w ho=>Reverse_any g cap N A.ls w ho (by omega))
 obtain⟨c1,c2,c3,c4⟩:=otherQ_zero h
 rw[ha]at HR
 unfold Ask.val at CK ⊢
 unfold other
 rw[ha]at CK ⊢
 simp only[List.length_reverse]
 clear h hA hr hlen
 generalize A.ix*A.sl=X at *
 generalize A.ix*A.sh=Y at *
 generalize A.ls.length=len at *
 obtain⟨hX,hY,x0,x1,y0,y1,o0,o1⟩:=S
 have kw1:IntKind.i64.wrap X=X:=IntWalk.i64_in _ ⟨by omega,by omega⟩
 have kw2:IntKind.i64.wrap Y=Y:=IntWalk.i64_in _ ⟨by omega,by omega⟩
 have kw3:wrap64 X=X:=IntWalk.wrap64_in _ ⟨by omega,by omega⟩
 have kw4:wrap64 Y=Y:=IntWalk.wrap64_in _ ⟨by omega,by omega⟩
 have m1:X.tmod A.oi=X%A.oi:=Int.tmod_eq_emod_of_nonneg x0
 have m2:Y.tmod A.oi=Y%A.oi:=Int.tmod_eq_emod_of_nonneg y0
 have on:¬A.oi=0:=by omega
 have d1:IntKind.i64.wrap (X.tdiv A.oi)=X/A.oi:=IntWalk.i64_quo _ _ ⟨x0,by omega,by omega⟩
 have d2:IntKind.i64.wrap (Y.tdiv A.oi)=Y/A.oi:=IntWalk.i64_quo _ _ ⟨y0,by omega,by omega⟩
 have d3:X.tdiv A.oi=X/A.oi:=Int.tdiv_eq_ediv_of_nonneg x0
 have d4:Y.tdiv A.oi=Y/A.oi:=Int.tdiv_eq_ediv_of_nonneg y0
 have hd:=Int.ediv_nonneg y0 (show 0≤A.oi by omega)
 have hd1:Y/A.oi≤Y:=Int.ediv_le_self _ y0
 have he:=Int.ediv_nonneg x0 (show 0≤A.oi by omega)
 have he1:X/A.oi≤X:=Int.ediv_le_self _ x0
 generalize X%A.oi=U at *
 generalize Y%A.oi=V at *
 generalize X/A.oi=S at *
 generalize Y/A.oi=T at *
 subst c2
 subst c3
 rw[c1]at CK ⊢
 have d5:wrap64 (S)=S:=IntWalk.wrap64_in _ ⟨by omega,by omega⟩
 have d6:wrap64 (T)=T:=IntWalk.wrap64_in _ ⟨by omega,by omega⟩
 have d7:IntKind.i64.wrap (T)=T:=IntWalk.i64_in _ ⟨by omega,by omega⟩
 have d8:IntKind.i64.wrap (S)=S:=IntWalk.i64_in _ ⟨by omega,by omega⟩
 have c5:¬10000≤T:=by omega
 go_enter Tryz.func51,Tryz.ntmps51
 go_wp2_with fail
 refine(CK.out _ (HR.out.bel blw)).mono ?_
 rintro e w1 ⟨rfl,A0⟩
 have A1:=A0.size
 (try simp at A1)
 have A4:=bl5 A0 (w.heap.size)
 have A2:=bl5 A0 (w.heap.size+1)
 go_wp2_with fail
 go_region_held3 (fun w'=>w'.cell? ⟨w.heap.size,0,none⟩=some (Value.int .i64 A.ix)∧w'.cell? ⟨w.heap.size,1,none⟩=some (Value.int .i64 A.sl)∧w'.cell? ⟨w.heap.size,2,none⟩=some (Value.int .i64 A.sh)) (simp[*,go_sem]) (fail)
 go_wp2_with fail
 go_region_held3 (fun w'=>w'.cell? ⟨w.heap.size,0,none⟩=some (Value.int .i64 A.ix)∧w'.cell? ⟨w.heap.size,7,none⟩=some (Value.int .i64 A.oi)) (simp[*,go_sem]) (fail)
 go_wp2_with fail
 go_region_held3 (fun w'=>w'.cell? ⟨w.heap.size,7,none⟩=some (Value.int .i64 A.oi)) (simp[*,go_sem]) (fail)
 go_wp2_with fail
 refine(CL.out _ (HR.out.bel blw)).mono ?_
 rintro E w2 ⟨g,c,rfl,ho,A5⟩
 have hlo:=ho.lo
 have hhi:=ho.hi
 simp at hlo
 have n1:¬g=w.heap.size:=by omega
 have n2:¬g=w.heap.size+1:=by omega
 have n3:¬g=w1.heap.size:=by omega
 have n4:¬w.heap.size=g:=by omega
 have n5:¬w.heap.size+1=g:=by omega
 have n6:¬w1.heap.size=g:=by omega
 have A6:=A5.size
 (try simp at A6)
 have A9:=bl5 A5 (w.heap.size)
 have A7:=bl5 A5 (w.heap.size+1)
 have A8:=bl5 A5 (w1.heap.size)
 go_wp2_with fail
 have ho2:OwnBox A.ls (w1.heap.size+1) g (w2.setCell ⟨w1.heap.size,6,none⟩ (.slice (some ⟨g,0,none⟩) len c)) :=
  (⟨hlo,ho.hi,ho.at',ho.free⟩:OwnBox A.ls (w1.heap.size+1) g w2).keep (by simp) (fun o=>by go_simp) (fun o=>by go_simp)
 refine(RV.out g c _ _ ho2).mono ?_
 clear ho2 ho
 rintro e w3 ⟨rfl,hrow,A3⟩
 have hs3:=A3.size
 simp at hs3
 have hb3:Below w.heap.size w w3:=Below.trans (show Below w.heap.size w (w2.setCell ⟨w1.heap.size,6,none⟩ (.slice (some ⟨g,0,none⟩) len c))from blw) (Below.mono A3 (by omega))
 have q1:=blc A3 w.heap.size
 have q2:=blc A3 (w.heap.size+1)
 have q3:=blc A3 w1.heap.size
 have q4:=blf A3 (w.heap.size+1)
 have z1:w.heap.size+1<w3.heap.size:=by omega
 have z2:w1.heap.size<w3.heap.size:=by omega
 repeat' (first|go_values|go_skip|go_guarded|go_step|go_upon|(simp only[];go_simp))
 refine bodyPost_ret (by simp[results,Tryz.results51,go_sem, *];first|done|rfl) rfl ?_
 exact⟨⟨g,0,none⟩,c,rfl,hrow.keep (by simp) (fun o=>by go_simp),by show _≤g;omega,by show g<_;simp;omega,blw⟩
end Go.Proofs.YtnljkhlmdacfaaaGreatDoor
