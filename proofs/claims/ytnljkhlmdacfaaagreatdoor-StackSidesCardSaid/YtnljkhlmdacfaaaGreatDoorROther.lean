/- The ask from the other side: the reference's walk. -/
import Derived.Test.YtnljkhlmdacfaaaGreatDoorKOther
import Derived.Test.YtnljkhlmdacfaaaGreatDoorRAsk
import Derived.Test.YtnljkhlmdacfaaaGreatDoorCalmTwo
import Derived.Test.YtnljkhlmdacfaaaGreatDoorBoxedLaw
import Derived.Maps.AppendAt
import Derived.Test.YtnljkhlmdacfaaaGreatDoorRegOne
namespace Go.Proofs.YtnljkhlmdacfaaaGreatDoor
open Go Go.Sort Go.RowKit
theorem oper_append_own {P:Program}{w:World}{o:Oper}{a:Act}{K:Act→World→Prop}{Q:Exit→Act→World→Prop} (s x:Operand) (t:TypeId)
  (ho:o.op = .call { callee := .builtin .append,args:=#[s,x],argTypes:=#[t,t]})
  (base:Nat) (e:TypeId) (i:TypeInfo) (z:Value) (size bytes:Nat) (ht:P.underlying t=some (.slice e)) (hi:P.info? e=some i) (hz:i.zero=some z)
  (hsize:i.size=size) (hby:i.bytes=bytes) (hzs:z.cells.size=size) (hsz:0<size)
  (v:Value) (n:Nat) (xs:List Value) (hs:a.eval s=v) (hown:w.ownsRow base e size v n xs)
  (ad:Addr) (m c:Nat) (news:List Value) (hx:a.eval x = .slice (some ad) m c) (hl:news.length=m*size) (hnews:∀j u,news[j]?=some u→w.cell? (ad.add j)=some u) (h1:∀u∈news,u.oneCell'=true)
  (h63:n+m≤maxLen) (hbytes:(n+m)*bytes≤140737488355328) (hbase:base≤w.heap.size)
  (h:∀v' w',w'.ownsRow base e size v' (n+m) (xs++news)→w.grownBy w' v.ownBlock→K (a.put o.dst v') w'):Oper.wp P o a w K Q:=by
 obtain⟨v',w',hr,h2,h3,_,_⟩:=run_append_own_at (P:=P) w base t o.type e i z size bytes ht hi hz hsize hby hzs hsz v n xs hown ad m c news hl hnews h1 h63 hbytes hbase
 unfold Oper.wp execOp
 simp only[ho,resolve,invoke,builtin,Sem.run_bind,Sem.run_pure,Result.andThen_ok,List.map_toArray,List.map_cons,List.map_nil,hs,hx,hr]
 exact h v' w' h2 h3
theorem getB {L:Array Bool}{i j n:Nat} (hs:L.size=n) (hi:i<n) (h:(L.setIfInBounds i true).getD j false=true):j=i∨L.getD j false=true:=by
 rw[getD_set hs hi]at h
 by_cases e:j=i
 ·exact .inl e
 ·rw[if_neg e]at h;exact .inr h
theorem getT {L:Array Bool}{i j n:Nat} (hs:L.size=n) (hi:i<n) (h:L.getD j false=true):(L.setIfInBounds i true).getD j false=true:=by
 rw[getD_set hs hi]
 split
 ·rfl
 ·exact h
theorem getI {L:Array Bool}{i n:Nat} (hs:L.size=n) (hi:i<n):(L.setIfInBounds i true).getD i false=true:=by rw[getD_set hs hi,if_pos rfl]
theorem getF {L:Array Bool}{i j n:Nat} (hs:L.size=n) (hi:i<n) (e:j≠i):(L.setIfInBounds i true).getD j false=L.getD j false:=by rw[getD_set hs hi,if_neg e]
def RowPh (L:Array Bool) (G:World→Prop) (wd wa:World) (S:World→World) (w':World):Prop :=
 (L.getD 7 false=false∧L.getD 8 false=false∧L.getD 10 false=false∧w'=wd)∨(L.getD 7 false=true∧L.getD 8 false=false∧L.getD 10 false=false∧w'=wa) ∨
  (L.getD 8 false=true∧L.getD 10 false=false∧G w')∨(L.getD 10 false=true∧∃w10,G w10∧w'=S w10)
structure RowCl (L:Array Bool):Prop where
 c5:L.getD 5 false=true→L.getD 3 false=true
 c6:L.getD 6 false=true→L.getD 3 false=true
 c7:L.getD 7 false=true→L.getD 3 false=true∧L.getD 6 false=true
 c8:L.getD 8 false=true→L.getD 1 false=true∧L.getD 3 false=true∧L.getD 6 false=true∧L.getD 7 false=true
 c10:L.getD 10 false=true→L.getD 8 false=true
theorem RowCl.set {L:Array Bool}{i:Nat} (h:RowCl L) (hs:L.size=11) (hi:i<11) (d5:i=5→L.getD 3 false=true) (d6:i=6→L.getD 5 false=true) (d7:i=7→L.getD 6 false=true) (d8:i=8→L.getD 1 false=true∧L.getD 7 false=true) (d10:i=10→L.getD 8 false=true):RowCl (L.setIfInBounds i true):=by
 refine⟨fun k => ?_,fun k => ?_,fun k => ?_,fun k => ?_,fun k => ?_⟩
 ·rcases getB hs hi k with e|k
  ·exact getT hs hi (d5 e.symm)
  ·exact getT hs hi (h.c5 k)
 ·rcases getB hs hi k with e|k
  ·exact getT hs hi (h.c5 (d6 e.symm))
  ·exact getT hs hi (h.c6 k)
 ·rcases getB hs hi k with e|k
  ·exact⟨getT hs hi (h.c6 (d7 e.symm)),getT hs hi (d7 e.symm)⟩
  ·exact⟨getT hs hi (h.c7 k).1,getT hs hi (h.c7 k).2⟩
 ·rcases getB hs hi k with e|k
  ·exact⟨getT hs hi (d8 e.symm).1,getT hs hi (h.c7 (d8 e.symm).2).1,getT hs hi (h.c7 (d8 e.symm).2).2,getT hs hi (d8 e.symm).2⟩
  ·exact⟨getT hs hi (h.c8 k).1,getT hs hi (h.c8 k).2.1,getT hs hi (h.c8 k).2.2.1,getT hs hi (h.c8 k).2.2.2⟩
 ·rcases getB hs hi k with e|k
  ·exact getT hs hi (d10 e.symm)
  ·exact getT hs hi (h.c10 k)
theorem RowPh.set {L:Array Bool}{G:World→Prop}{wd wa:World}{S:World→World}{w':World}{i:Nat} (h:RowPh L G wd wa S w') (hs:L.size=11) (hi:i<11) (h7:i≠7) (h8:i≠8) (h10:i≠10):RowPh (L.setIfInBounds i true) G wd wa S w':=by
 unfold RowPh
 rw[getF hs hi (fun e=>h7 e.symm),getF hs hi (fun e=>h8 e.symm),getF hs hi (fun e=>h10 e.symm)]
 exact h
theorem getD_tf {L:Array Bool}{j:Nat} (h:L.getD j true=false) (k:L.getD j false=true):False:=by
 rw[getD_both h]at k;exact absurd k (by decide)
theorem eval_tmp {a:Act}{d:Nat}{v:Value} (h:a.eval (.tmp d)=v):a.tmps[d]?.getD undef=v:=by
 rw[← h];unfold Act.eval;exact(Array.getD_eq_getD_getElem? ..).symm
theorem both_no {S T:Int} (h:10000≤T):(inR S 0 9999&&inR T 0 9999)=false:=by
 cases k:inR T 0 9999
 ·rw[Bool.and_false]
 ·have:=(inR_yes.1 k).2;omega
theorem both_yes {S T:Int} (h0:0≤S) (h:S≤T) (h1:T≤9999):(inR S 0 9999&&inR T 0 9999)=true:=by
 rw[inR_yes.2 ⟨h0,by omega⟩,inR_yes.2 ⟨by omega,h1⟩]
 rfl
theorem both_to (S T:Int) (b:Bool) (h:(inR S 0 9999&&inR T 0 9999)=b) (w:World):Calls Tryz.prog 124 #[.agg #[.int .i64 S,.int .i64 T],.int .i64 0,.int .i64 9999] w fun e w'=>e = .returned (.bool b)∧Below w.heap.size w w':=by
 have k:=both3_any S T 0 9999 w
 rw[h]at k
 exact k
theorem row_own {V:Value}{N:Nat}{ls:List Box}{w:World} (ho:w.ownsRow N 52 5 V ls.length (cellsOf ls)):∃p c,V = .slice p ls.length c∧Row p ls w∧∀a,p=some a→N≤a.block:=by
 by_cases hv:V = .slice none 0 0
 ·subst hv
  have h0:ls.length=0:=by
   rcases ho.2 with⟨_,h1⟩|⟨g,cap,cur,h1,_⟩
   ·have:=ho.1
    rw[h1]at this
    simp at this
    omega
   ·cases h1
  obtain rfl:=List.eq_nil_of_length_eq_zero h0
  exact⟨none,0,rfl,⟨fun j b hj=>by simp at hj⟩,fun a h=>by cases h⟩
 ·obtain⟨g,cap,rfl,hO⟩:=own_boxes ho hv
  exact⟨_,cap,rfl,hO.row,fun a h=>by cases h;exact hO.lo⟩
theorem Row.set {p:Option Addr}{ls:List Box}{w:World} (h:Row p ls w){q:Addr} (hq:∀a,p=some a→0<ls.length→a.block≠q.block) (v:Value):Row p ls (w.setCell q v) :=
 ⟨fun j b hj=>by
  obtain⟨a,h1,h2,h3⟩:=h.get j b hj
  refine⟨a,h1,by simpa using h2,boxAt_five.2 fun i hi => ?_⟩
  rw[← boxAt_five.1 h3 i hi]
  refine World.cell?_setCell_other _ _ _ _ (fun e => ?_)
  have e1:=congrArg Addr.block e
  rw[add_more,block_add]at e1
  exact hq a h1 (by have:=(List.getElem?_eq_some_iff.1 hj).1;omega) e1.symm⟩
theorem grown_at {w w':World}{V:Value}{N:Nat} (g:w.grownBy w' V.ownBlock) (hv:∀b,V.ownBlock=some b→N≤b) (hw:N≤w.heap.size){b:Nat} (hb:b<N) (o:Nat):w'.cell? ⟨b,o,none⟩=w.cell? ⟨b,o,none⟩∧w'.frozen? ⟨b,o,none⟩=w.frozen? ⟨b,o,none⟩:=by
 have k:=g.block b (by omega) (fun e=>by have:=hv b e.symm;omega)
 simp only[World.cell?,World.frozen?,k,and_self]
set_option maxRecDepth 100000 in
set_option maxHeartbeats 8000000 in
theorem rOtherSide_no (A:Ask) (hA:AskOk A) (w:World) (_hr:Row A.pa A.ls w) (q:Int) (hq:otherQ A=q) (h:¬q=0) :
  Calls Tryz.prog 52 #[A.val] w fun e w'=>e = .returned (.tuple #[zeroAsk,.int .i64 q])∧Below w.heap.size w w':=by
 have S:=sides_of hA
 have hXY:A.ix*A.sl≤A.ix*A.sh:=Int.mul_le_mul_of_nonneg_left hA.s1 (by have:=hA.i0;omega)
 have Q1:=Lib.hid (@otherQ_1 A)
 have Q2:=Lib.hid (@otherQ_2 A)
 have Q3:=Lib.hid (@otherQ_3 A)
 have ZZ:=Lib.hid (@otherQ_4 A)
 have Q4:¬otherQ A=0:=by rw[hq];exact h
 generalize otherQ A=Q at *
 subst hq
 clear h hA _hr
 unfold zeroAsk Ask.val
 generalize A.ls.length=len at *
 generalize A.ix*A.sl=X at *
 generalize A.ix*A.sh=Y at *
 obtain⟨hX,hY,x0,x1,y0,y1,o0,o1⟩:=S
 have kw1:IntKind.i64.wrap X=X:=IntWalk.i64_in _ ⟨by omega,by omega⟩
 have kw2:IntKind.i64.wrap Y=Y:=IntWalk.i64_in _ ⟨by omega,by omega⟩
 have kw3:wrap64 X=X:=IntWalk.wrap64_in _ ⟨by omega,by omega⟩
 have kw4:wrap64 Y=Y:=IntWalk.wrap64_in _ ⟨by omega,by omega⟩
 have m1:X.tmod A.oi=X%A.oi:=Int.tmod_eq_emod_of_nonneg x0
 have m2:Y.tmod A.oi=Y%A.oi:=Int.tmod_eq_emod_of_nonneg y0
 have on:¬A.oi=0:=by omega
 have d1:IntKind.i64.wrap (X.tdiv A.oi)=X/A.oi:=IntWalk.i64_quo _ _ ⟨x0,by omega,by omega⟩
 have d2:IntKind.i64.wrap (Y.tdiv A.oi)=Y/A.oi:=IntWalk.i64_quo _ _ ⟨y0,by omega,by omega⟩
 have d3:X.tdiv A.oi=X/A.oi:=Int.tdiv_eq_ediv_of_nonneg x0
 have d4:Y.tdiv A.oi=Y/A.oi:=Int.tdiv_eq_ediv_of_nonneg y0
 have hd:=Int.ediv_nonneg y0 (show 0≤A.oi by omega)
 have hd1:Y/A.oi≤Y:=Int.ediv_le_self _ y0
 have he:=Int.ediv_nonneg x0 (show 0≤A.oi by omega)
 have he1:X/A.oi≤X:=Int.ediv_le_self _ x0
 generalize X%A.oi=U at *
 generalize Y%A.oi=V at *
 have hST:X/A.oi≤Y/A.oi:=Int.ediv_le_ediv (by omega) hXY
 generalize X/A.oi=S at *
 generalize Y/A.oi=T at *
 have d5:wrap64 (S)=S:=IntWalk.wrap64_in _ ⟨by omega,by omega⟩
 have d6:wrap64 (T)=T:=IntWalk.wrap64_in _ ⟨by omega,by omega⟩
 have d7:IntKind.i64.wrap (T)=T:=IntWalk.i64_in _ ⟨by omega,by omega⟩
 have d8:IntKind.i64.wrap (S)=S:=IntWalk.i64_in _ ⟨by omega,by omega⟩
 by_cases c1:A.ol=0
 case neg =>
  have:=Q1.out c1
  subst this
  have c1':(A.ol != 0)=true:=by simpa using c1
  clear Q2 Q3
  go_enter Tryz.func52,Tryz.ntmps52
  repeat' (first|go_values|go_skip|go_guarded|go_step|go_upon|(simp only[];go_simp))
  (with_reducible show bodyPost _ _ _ _ _ _);refine bodyPost_ret (by simp[results,Tryz.results52,go_sem, *];first|done|rfl) rfl ?_
  exact⟨rfl,blw⟩
 rw[c1]
 by_cases c2:U=0
 case neg =>
  have:=Q2.out c1 (fun h=>c2 h.1)
  subst this
  clear Q1 Q3
  go_enter Tryz.func52,Tryz.ntmps52
  go_wp2_with fail
  go_region_held3 (fun w'=>w'.cell? ⟨w.heap.size,0,none⟩=some (Value.int .i64 A.ix)∧w'.cell? ⟨w.heap.size,1,none⟩=some (Value.int .i64 A.sl)∧w'.cell? ⟨w.heap.size,2,none⟩=some (Value.int .i64 A.sh)) (simp[*,go_sem]) (fail)
  repeat' (first|go_values|go_skip|go_guarded|go_step|go_upon|(simp only[];go_simp))
  (with_reducible show bodyPost _ _ _ _ _ _);refine bodyPost_ret (by simp[results,Tryz.results52,go_sem, *];first|done|rfl) rfl ?_
  exact⟨rfl,blw⟩
 by_cases c3:V=0
 case neg =>
  have:=Q2.out c1 (fun h=>c3 h.2)
  subst this
  clear Q1 Q3
  go_enter Tryz.func52,Tryz.ntmps52
  go_wp2_with fail
  go_region_held3 (fun w'=>w'.cell? ⟨w.heap.size,0,none⟩=some (Value.int .i64 A.ix)∧w'.cell? ⟨w.heap.size,1,none⟩=some (Value.int .i64 A.sl)∧w'.cell? ⟨w.heap.size,2,none⟩=some (Value.int .i64 A.sh)) (simp[*,go_sem]) (fail)
  repeat' (first|go_values|go_skip|go_guarded|go_step|go_upon|(simp only[];go_simp))
  (with_reducible show bodyPost _ _ _ _ _ _);refine bodyPost_ret (by simp[results,Tryz.results52,go_sem, *];first|done|rfl) rfl ?_
  exact⟨rfl,blw⟩
 by_cases c4:10000≤T
 case neg=>exact absurd (ZZ.out c1 ⟨c2,c3⟩ c4) Q4
 have:=Q3.out c1 ⟨c2,c3⟩ c4
 subst this
 have BT:=Lib.hid (fun w=>both_to S T false (both_no c4) w)
 clear Q1 Q2
 go_enter Tryz.func52,Tryz.ntmps52
 go_wp2_with fail
 go_region_held3 (fun w'=>w'.cell? ⟨w.heap.size,0,none⟩=some (Value.int .i64 A.ix)∧w'.cell? ⟨w.heap.size,1,none⟩=some (Value.int .i64 A.sl)∧w'.cell? ⟨w.heap.size,2,none⟩=some (Value.int .i64 A.sh)) (simp[*,go_sem]) (fail)
 go_wp2_with fail
 go_region_held3 (fun w'=>w'.cell? ⟨w.heap.size,0,none⟩=some (Value.int .i64 A.ix)∧w'.cell? ⟨w.heap.size,3,none⟩=some (Value.int .i64 A.po)∧w'.cell? ⟨w.heap.size,4,none⟩=some (Value.int .i64 A.wl)∧w'.cell? ⟨w.heap.size,5,none⟩=some (Value.int .i64 A.wh)∧w'.cell? ⟨w.heap.size,7,none⟩=some (Value.int .i64 A.oi)) (simp[*,go_sem]) (fail)
 go_wp2_with fail
 refine(BT.out _).mono ?_
 rintro e w1 ⟨rfl,A0⟩
 have Aa:=A0.size
 (try simp at Aa)
 obtain⟨A9,A8,A7,A1,A2⟩:=bl5 A0 (w.heap.size+1)
 repeat' (first|go_values|go_skip|go_guarded|go_step|go_upon|(simp only[];go_simp))
 (with_reducible show bodyPost _ _ _ _ _ _);refine bodyPost_ret (by simp[results,Tryz.results52,go_sem, *];first|done|rfl) rfl ?_
 exact⟨rfl,blw⟩
set_option maxRecDepth 100000 in
set_option maxHeartbeats 16000000 in
theorem rOtherSide_yes (A:Ask) (hA:AskOk A) (h:otherQ A=0) (w:World) (hr:Row A.pa A.ls w) :
  Calls Tryz.prog 52 #[A.val] w fun e w'=>∃p c,e = .returned (.tuple #[(other A p c).val,.int .i64 0])∧Row p A.ls.reverse w'∧(∀a,p=some a→w.heap.size≤a.block)∧Below w.heap.size w w':=by
 have S:=sides_of hA
 have hXY:A.ix*A.sl≤A.ix*A.sh:=Int.mul_le_mul_of_nonneg_left hA.s1 (by have:=hA.i0;omega)
 have HR:=Lib.hid hr
 have hlen:=hA.len
 obtain⟨c1,c2,c3,c4⟩:=otherQ_zero h
 obtain⟨ii,hi0,hi1,hi2,hi3⟩:=box_info
 unfold other Ask.val
 simp only[List.length_reverse]
 clear h hA hr
 generalize A.ix*A.sl=X at *
 generalize A.ix*A.sh=Y at *
 obtain⟨hX,hY,x0,x1,y0,y1,o0,o1⟩:=S
 have kw1:IntKind.i64.wrap X=X:=IntWalk.i64_in _ ⟨by omega,by omega⟩
 have kw2:IntKind.i64.wrap Y=Y:=IntWalk.i64_in _ ⟨by omega,by omega⟩
 have kw3:wrap64 X=X:=IntWalk.wrap64_in _ ⟨by omega,by omega⟩
 have kw4:wrap64 Y=Y:=IntWalk.wrap64_in _ ⟨by omega,by omega⟩
 have m1:X.tmod A.oi=X%A.oi:=Int.tmod_eq_emod_of_nonneg x0
 have m2:Y.tmod A.oi=Y%A.oi:=Int.tmod_eq_emod_of_nonneg y0
 have on:¬A.oi=0:=by omega
 have d1:IntKind.i64.wrap (X.tdiv A.oi)=X/A.oi:=IntWalk.i64_quo _ _ ⟨x0,by omega,by omega⟩
 have d2:IntKind.i64.wrap (Y.tdiv A.oi)=Y/A.oi:=IntWalk.i64_quo _ _ ⟨y0,by omega,by omega⟩
 have d3:X.tdiv A.oi=X/A.oi:=Int.tdiv_eq_ediv_of_nonneg x0
 have d4:Y.tdiv A.oi=Y/A.oi:=Int.tdiv_eq_ediv_of_nonneg y0
 have hd:=Int.ediv_nonneg y0 (show 0≤A.oi by omega)
 have hd1:Y/A.oi≤Y:=Int.ediv_le_self _ y0
 have he:=Int.ediv_nonneg x0 (show 0≤A.oi by omega)
 have he1:X/A.oi≤X:=Int.ediv_le_self _ x0
 generalize X%A.oi=U at *
 generalize Y%A.oi=V at *
 have hST:X/A.oi≤Y/A.oi:=Int.ediv_le_ediv (by omega) hXY
 generalize X/A.oi=S at *
 generalize Y/A.oi=T at *
 have d5:wrap64 (S)=S:=IntWalk.wrap64_in _ ⟨by omega,by omega⟩
 have d6:wrap64 (T)=T:=IntWalk.wrap64_in _ ⟨by omega,by omega⟩
 have d7:IntKind.i64.wrap (T)=T:=IntWalk.i64_in _ ⟨by omega,by omega⟩
 have d8:IntKind.i64.wrap (S)=S:=IntWalk.i64_in _ ⟨by omega,by omega⟩
 subst c2
 subst c3
 rw[c1]
 have hlw:wrap64 ((A.ls.length:Int)-1)=A.ls.length-1:=IntWalk.wrap64_in _ ⟨by omega,by omega⟩
 have hlw2:IntKind.i64.wrap ((A.ls.length:Int)-1)=A.ls.length-1:=IntWalk.i64_in _ ⟨by omega,by omega⟩
 have BT:=Lib.hid (fun w=>both_to S T true (both_yes (by omega) hST c4) w)
 generalize A.pa=pa at *
 go_enter Tryz.func52,Tryz.ntmps52
 go_wp2_with fail
 go_region_held3 (fun w'=>w'.cell? ⟨w.heap.size,0,none⟩=some (Value.int .i64 A.ix)∧w'.cell? ⟨w.heap.size,1,none⟩=some (Value.int .i64 A.sl)∧w'.cell? ⟨w.heap.size,2,none⟩=some (Value.int .i64 A.sh)) (simp[*,go_sem]) (fail)
 go_wp2_with fail
 go_region_held3 (fun w'=>w'.cell? ⟨w.heap.size,0,none⟩=some (Value.int .i64 A.ix)∧w'.cell? ⟨w.heap.size,3,none⟩=some (Value.int .i64 A.po)∧w'.cell? ⟨w.heap.size,4,none⟩=some (Value.int .i64 A.wl)∧w'.cell? ⟨w.heap.size,5,none⟩=some (Value.int .i64 A.wh)∧w'.cell? ⟨w.heap.size,7,none⟩=some (Value.int .i64 A.oi)) (simp[*,go_sem]) (fail)
 go_wp2_with fail
 refine(BT.out _).mono ?_
 rintro e w1 ⟨rfl,A0⟩
 have Aa:=A0.size
 (try simp at Aa)
 obtain⟨Ag,Ae,Ad,A6,Ab⟩:=bl5 A0 (w.heap.size)
 obtain⟨A9,A8,A7,A1,A2⟩:=bl5 A0 (w.heap.size+1)
 go_wp2_with fail
 have A4:=blc A0 (w.heap.size+1+1)
 have A5:=blf A0 (w.heap.size+1+1)
 have hs1:=A0.size
 (try simp at hs1)
 have a0:∀o,w1.cell? ⟨w.heap.size,o,none⟩=(#[.int .i64 A.ix,.int .i64 A.sl,.int .i64 A.sh,.int .i64 A.po,.int .i64 A.wl,.int .i64 A.wh,.slice pa A.ls.length A.cap,.int .i64 A.oi,.int .i64 0]:Array Value)[o]?:=fun o=>(A6 o).trans (by go_simp)
 have z0:∀o,w1.cell? ⟨w.heap.size+1,o,none⟩=(#[.int .i64 0,.int .i64 0,.int .i64 0,.int .i64 0,.int .i64 0,.int .i64 0,.slice none 0 0,.int .i64 0,.int .i64 0]:Array Value)[o]?:=fun o=>(A1 o).trans (by go_simp)
 have zf0:∀o,w1.frozen? ⟨w.heap.size+1,o,none⟩=false:=fun o=>(A2 o).trans (by go_simp)
 have b0:∀o,w1.cell? ⟨w.heap.size+1+1,o,none⟩=(#[.int .i64 A.oi,.int .i64 S,.int .i64 T,.int .i64 A.po,.int .i64 A.wl,.int .i64 A.wh,.slice none 0 0,.int .i64 A.ix,.int .i64 0]:Array Value)[o]?:=fun o=>(A4 o).trans (by go_simp)
 have bf0:∀o,w1.frozen? ⟨w.heap.size+1+1,o,none⟩=false:=fun o=>(A5 o).trans (by go_simp)
 have hv1:Below w.heap.size w w1:=blw
 have l1:w.heap.size+1+1<w1.heap.size:=by omega
 clear A6 A1 A4 Ab A2 A5 BT A0
 (try clear hlw2)
 (try clear hlw)
 (try clear d8)
 (try clear d7)
 (try clear d6)
 (try clear d5)
 (try clear hST)
 (try clear he1)
 (try clear he)
 (try clear hd1)
 (try clear hd)
 (try clear d4)
 (try clear d3)
 (try clear d2)
 (try clear d1)
 (try clear on)
 (try clear m2)
 (try clear m1)
 (try clear kw4)
 (try clear kw3)
 (try clear kw2)
 (try clear kw1)
 (try clear y1)
 (try clear y0)
 (try clear x1)
 (try clear x0)
 (try clear o1)
 (try clear o0)
 (try clear hX)
 (try clear hY)
 (try clear hXY)
 (try clear c4)
 (try clear hs1)
 (try clear hv1')
 go_loopw [7] (fun i wr=>∃(m:Nat) (V:Value),m≤A.ls.length∧i = .int .i64 ((m:Int)-1)∧Below w.heap.size w wr∧w1.heap.size≤wr.heap.size∧(∀o,wr.cell? ⟨w.heap.size,o,none⟩=(#[.int .i64 A.ix,.int .i64 A.sl,.int .i64 A.sh,.int .i64 A.po,.int .i64 A.wl,.int .i64 A.wh,.slice pa A.ls.length A.cap,.int .i64 A.oi,.int .i64 0]:Array Value)[o]?)∧(∀o,wr.cell? ⟨w.heap.size+1,o,none⟩=(#[.int .i64 0,.int .i64 0,.int .i64 0,.int .i64 0,.int .i64 0,.int .i64 0,.slice none 0 0,.int .i64 0,.int .i64 0]:Array Value)[o]?)∧(∀o,wr.frozen? ⟨w.heap.size+1,o,none⟩=false)∧(∀o,wr.cell? ⟨w.heap.size+1+1,o,none⟩=(#[.int .i64 A.oi,.int .i64 S,.int .i64 T,.int .i64 A.po,.int .i64 A.wl,.int .i64 A.wh,V,.int .i64 A.ix,.int .i64 0]:Array Value)[o]?)∧(∀o,wr.frozen? ⟨w.heap.size+1+1,o,none⟩=false)∧wr.ownsRow w1.heap.size 52 5 V (A.ls.length-m) (cellsOf (A.ls.reverse.take (A.ls.length-m)))) (fun i _=>(intOf i+1).toNat)
 case atStart=>exact⟨A.ls.length,.slice none 0 0,Nat.le_refl _,rfl,hv1,Nat.le_refl _,a0,z0,zf0,b0,bf0,by rw[Nat.sub_self];exact World.ownsRow_nil _ _ _ _⟩
 case round =>
  obtain⟨m,V,hm,rfl,A3,le_wr,a1,z1,zf1,b1,bf1,hown⟩:=hrel
  clear a0 z0 zf0 b0 bf0
  cases m with
  | zero =>
   have e:((0:Nat):Int)-1 = -1:=by decide
   rw[e]
   rw[Nat.sub_zero]at hown
   have hw2:A.ls.reverse.take A.ls.length=A.ls.reverse:=List.take_of_length_le (by rw[List.length_reverse];exact Nat.le_refl _)
   rw[hw2]at hown
   obtain⟨p',c',rfl,hrow,hpb⟩:=row_own (ls:=A.ls.reverse) (by rw[List.length_reverse];exact hown)
   have hrow:=Lib.hid hrow
   rw[List.length_reverse]at b1
   clear hown hw2 hi0 hi1 hi2 hi3
   go_wp2
   (with_reducible show bodyPost _ _ _ _ _ _);refine bodyPost_ret (by simp[results,Tryz.results52,go_sem, *];first|done|rfl) rfl ?_
   have RS:=Lib.hid (fun(w':World) (h:Row p' A.ls.reverse w') (o:Nat) (v:Value)=>h.set (q:=⟨w.heap.size+1,o,none⟩) (fun a h _=>by have:=hpb a h;have hl1:=l1;show a.block≠w.heap.size+1;omega) v)
   refine⟨p',c',rfl,?_,fun a h=>by have hk:=hpb a h;have hl1:=l1;omega,blw⟩
   repeat (first|(with_reducible exact hrow.out)|(with_reducible refine RS.out _ ?_ _ _))
  | succ j =>
   have e:((j+1:Nat):Int)-1=j:=by omega
   rw[e]
   obtain⟨b,hb⟩:∃b,A.ls[j]?=some b:=⟨_,List.getElem?_eq_getElem (by omega)⟩
   obtain⟨a,ha,hal,hE⟩:=HR.out.get j b hb
   subst ha
   obtain⟨E1,E2,E3,E4,E5⟩:=boxAt.bel hE A3 hal
   have na0:¬(a.add (j*5)).block=w.heap.size:=by omega
   have na1:¬(a.add (j*5)).block=w.heap.size+1:=by omega
   have na2:¬(a.add (j*5)).block=w.heap.size+1+1:=by omega
   have CN:cellsOf (A.ls.reverse.take (A.ls.length-j))=cellsOf (A.ls.reverse.take (A.ls.length-(j+1)))++b.five:=by
    have hk:A.ls.length-j=(A.ls.length-(j+1))+1:=by omega
    have hg:A.ls.reverse[A.ls.length-(j+1)]?=some b:=by
     rw[List.getElem?_reverse (by omega),show A.ls.length-1-(A.ls.length-(j+1))=j by omega]
     exact hb
    rw[hk,List.take_add_one,hg]
    unfold cellsOf
    rw[List.flatMap_append]
    simp
   unfold Box.five at CN
   have hjl:(j:Int)<A.ls.length:=by omega
   have hnk:A.ls.length-j=(A.ls.length-(j+1))+1:=by omega
   obtain⟨b1c,b2c,b3c,b4c,b5c⟩:=b
   dsimp only at E1 E2 E3 E4 E5 CN
   have HC:=Lib.hid (And.intro (show(A.ls.length-(j+1))+1≤maxLen by unfold maxLen;omega) (show((A.ls.length-(j+1))+1)*40≤140737488355328 by omega))
   have hown:=Lib.hid hown
   have b16:wr.cell? ⟨w.heap.size+1+1,6,none⟩=some V:=(b1 6).trans rfl
   have a16:wr.cell? ⟨w.heap.size,6,none⟩=some (.slice (some a) A.ls.length A.cap):=(a1 6).trans rfl
   clear hE hb HR
   have lw0:w.heap.size<wr.heap.size:=by omega
   have nw0:¬w.heap.size=wr.heap.size:=by omega
   have lw1:w.heap.size+1<wr.heap.size:=by omega
   have nw1:¬w.heap.size+1=wr.heap.size:=by omega
   have lw2:w.heap.size+1+1<wr.heap.size:=by omega
   have nw2:¬w.heap.size+1+1=wr.heap.size:=by omega
   obtain⟨wd,hwd⟩:∃x:World,x = { wr with drawn:=wr.drawn+1} := ⟨_,rfl⟩
   obtain⟨wa,hwa⟩:∃x:World,x=wd.alloc (Obj.cells #[.int .i64 b1c,.int .i64 b2c,.int .i64 b3c,.int .i64 b4c,.int .i64 b5c] 52):=⟨_,rfl⟩
   have sd:wd.heap.size=wr.heap.size:=by rw[hwd]
   have sa:wa.heap.size=wr.heap.size+1:=by rw[hwa];simp[sd]
   have Dc:∀p,wd.cell? p=wr.cell? p:=fun p=>by rw[hwd];rfl
   have Df:∀p,wd.frozen? p=wr.frozen? p:=fun p=>by rw[hwd];rfl
   have Ac:∀p:Addr,p.block<wr.heap.size→wa.cell? p=wr.cell? p:=fun p hp=>by
    rw[← Dc p,hwa]
    exact Below.cell (p:=p) ((Below.refl wd.heap.size wd).alloc (Nat.le_refl _) _) (by rw[sd];exact hp)
   have Af:∀p:Addr,p.block<wr.heap.size→wa.frozen? p=wr.frozen? p:=fun p hp=>by
    rw[← Df p,hwa]
    exact Below.frozen (p:=p) ((Below.refl wd.heap.size wd).alloc (Nat.le_refl _) _) (by rw[sd];exact hp)
   have hownd:wd.ownsRow w1.heap.size 52 5 V (A.ls.length-(j+1)) (cellsOf (A.ls.reverse.take (A.ls.length-(j+1)))):=by rw[hwd];exact hown.out
   have howna:wa.ownsRow w1.heap.size 52 5 V (A.ls.length-(j+1)) (cellsOf (A.ls.reverse.take (A.ls.length-(j+1)))):=by rw[hwa];exact hownd.alloc _
   have hOB:=fun b hb=>(hown.out.lt b hb).1
   have hbd:Below w.heap.size w wd:=by rw[hwd];exact⟨A3.os,A3.tape,A3.output,A3.size,A3.block⟩
   have hba:Below w.heap.size w wa:=by rw[hwa];exact hbd.alloc (by have:=A3.size;rw[sd];exact this) _
   have GF:∀(x:Value) (w10:World),wa.grownBy w10 V.ownBlock→(∀o,w10.cell? ⟨w.heap.size+1+1,o,none⟩=(#[.int .i64 A.oi,.int .i64 S,.int .i64 T,.int .i64 A.po,.int .i64 A.wl,.int .i64 A.wh,V,.int .i64 A.ix,.int .i64 0]:Array Value)[o]?)∧(∀o,w10.frozen? ⟨w.heap.size+1+1,o,none⟩=false)∧(∀o,w10.cell? ⟨w.heap.size+1,o,none⟩=(#[.int .i64 0,.int .i64 0,.int .i64 0,.int .i64 0,.int .i64 0,.int .i64 0,.slice none 0 0,.int .i64 0,.int .i64 0]:Array Value)[o]?)∧(∀o,w10.frozen? ⟨w.heap.size+1,o,none⟩=false)∧(∀o,w10.cell? ⟨w.heap.size,o,none⟩=(#[.int .i64 A.ix,.int .i64 A.sl,.int .i64 A.sh,.int .i64 A.po,.int .i64 A.wl,.int .i64 A.wh,.slice (some a) A.ls.length A.cap,.int .i64 A.oi,.int .i64 0]:Array Value)[o]?)∧w1.heap.size≤w10.heap.size∧Below w.heap.size w w10:=fun _ w10 g=>by
    have hsz:=g.size
    have c10:=fun(b:Nat) (hb:b<w1.heap.size) o=>grown_at g hOB (by omega) hb o
    refine⟨fun o=>((c10 _ l1 o).1.trans (Ac ⟨w.heap.size+1+1,o,none⟩ lw2)).trans (b1 o),fun o=>((c10 _ l1 o).2.trans (Af ⟨w.heap.size+1+1,o,none⟩ lw2)).trans (bf1 o),fun o=>((c10 (w.heap.size+1) (by omega) o).1.trans (Ac ⟨w.heap.size+1,o,none⟩ lw1)).trans (z1 o),fun o=>((c10 (w.heap.size+1) (by omega) o).2.trans (Af ⟨w.heap.size+1,o,none⟩ lw1)).trans (zf1 o),fun o=>((c10 (w.heap.size) (by omega) o).1.trans (Ac ⟨w.heap.size,o,none⟩ lw0)).trans (a1 o),by omega,?_⟩
    exact grown_bel (v:=V) hba g (fun b hb=>by have:=hOB b hb;omega)
   have GF:=Lib.hid GF
   have E1':=E1
   have lwa:(a.add (j*5)).block<wr.heap.size:=by omega
   go_wp2_with fail
   refine region_one 8 (fun x i=>(#[.pointer (some ⟨w.heap.size+1+1,6,none⟩),V,.pointer (some ⟨w.heap.size,6,none⟩),.slice (some a) A.ls.length A.cap,.int .i64 j,.pointer (some (a.add (j*5))),.agg #[.int .i64 b1c,.int .i64 b2c,.int .i64 b3c,.int .i64 b4c,.int .i64 b5c],.slice (some ⟨wr.heap.size,0,none⟩) 1 1,x,.pointer (some ⟨w.heap.size+1+1,6,none⟩),.bool true]:Array Value).getD i undef)
    (fun x L w'=>RowPh L (fun w10=>w10.ownsRow w1.heap.size 52 5 x ((A.ls.length-(j+1))+1) (cellsOf (A.ls.reverse.take (A.ls.length-j)))∧wa.grownBy w10 V.ownBlock) wd wa (fun w10=>w10.setCell ⟨w.heap.size+1+1,6,none⟩ x) w'∧RowCl L)
    (by kernel_rfl) (by kernel_rfl) (by kernel_rfl) (by kernel_rfl) (fun x y i hi=>by match i,hi with|0,_=>rfl|1,_=>rfl|2,_=>rfl|3,_=>rfl|4,_=>rfl|5,_=>rfl|6,_=>rfl|7,_=>rfl|8,h=>exact absurd rfl h|9,_=>rfl|10,_=>rfl|n+11,_=>rfl) (.bool true) ?start ?step ?last
   case start=>exact⟨.inl ⟨getD_replicate_false _ _,getD_replicate_false _ _,getD_replicate_false _ _,hwd.symm⟩,⟨fun h=>by rw[getD_replicate_false]at h;exact absurd h (by decide),fun h=>by rw[getD_replicate_false]at h;exact absurd h (by decide),fun h=>by rw[getD_replicate_false]at h;exact absurd h (by decide),fun h=>by rw[getD_replicate_false]at h;exact absurd h (by decide),fun h=>by rw[getD_replicate_false]at h;exact absurd h (by decide)⟩⟩
   case step =>
    intro x L a' w' i o hs hF hS ho hl hw
    obtain⟨hP,hC⟩:=hF
    have hz:L.size=11:=hs
    have hi:i<11:=(Array.getElem?_eq_some_iff.1 ho).1
    have X6:a'.eval (.tmp 6) = .pointer (some ⟨w.heap.size+1+1,0,none⟩):=(hS.keep (d:=6) (by kernel_rfl)).trans rfl
    have X1:a'.eval (.tmp 1) = .pointer (some ⟨w.heap.size,0,none⟩):=(hS.keep (d:=1) (by kernel_rfl)).trans rfl
    have X7:a'.eval (.tmp 7) = .int .i64 j:=(hS.keep (d:=7) (by kernel_rfl)).trans rfl
    match i,hi with
    | 0,_ =>
     obtain rfl:=Option.some.inj (ho.symm.trans (show _=some _ from rfl)) |>.symm
     refine .inl ⟨?_,hP.set hz (by decide) (by decide) (by decide) (by decide),hC.set hz (by decide) (fun h=>absurd h (by decide)) (fun h=>absurd h (by decide)) (fun h=>absurd h (by decide)) (fun h=>absurd h (by decide)) (fun h=>absurd h (by decide))⟩
     unfold execOp
     have X6:=eval_tmp X6
     clear CN hnk hwd hwa sd sa Dc Df Ac Af hownd howna hOB hbd hba GF
     go_simp
    | 1,_ =>
     obtain rfl:=Option.some.inj (ho.symm.trans (show _=some _ from rfl)) |>.symm
     have e0:a'.eval (.tmp 75) = .pointer (some ⟨w.heap.size+1+1,6,none⟩):=hS.eval (j:=0) rfl rfl (dep_of hw 0 (by kernel_rfl)) (of_decide_eq_true (by kernel_rfl))
     have hcc:∀p:Addr,p.block<wr.heap.size→w'.cell? p=wr.cell? p:=by
      rcases hP with⟨_,_,_,rfl⟩|⟨_,_,_,rfl⟩|⟨h8,_⟩|⟨h10,_⟩
      ·exact fun p _=>Dc p
      ·exact Ac
      ·exact(getD_tf hl (hC.c8 h8).1).elim
      ·have h8:=hC.c10 h10
       exact(getD_tf hl (hC.c8 h8).1).elim
     have k0:=(hcc ⟨w.heap.size+1+1,6,none⟩ lw2).trans b16
     refine .inl ⟨?_,hP.set hz (by decide) (by decide) (by decide) (by decide),hC.set hz (by decide) (fun h=>absurd h (by decide)) (fun h=>absurd h (by decide)) (fun h=>absurd h (by decide)) (fun h=>absurd h (by decide)) (fun h=>absurd h (by decide))⟩
     clear hP hC hS E1 E2 E3 E4 E5 E1' b16 a16
     unfold execOp
     have e0:=eval_tmp e0
     clear CN hnk hwd hwa sd sa Dc Df Ac Af hownd howna hOB hbd hba GF
     (try clear hcc)
     go_simp
    | 2,_ =>
     obtain rfl:=Option.some.inj (ho.symm.trans (show _=some _ from rfl)) |>.symm
     refine .inl ⟨?_,hP.set hz (by decide) (by decide) (by decide) (by decide),hC.set hz (by decide) (fun h=>absurd h (by decide)) (fun h=>absurd h (by decide)) (fun h=>absurd h (by decide)) (fun h=>absurd h (by decide)) (fun h=>absurd h (by decide))⟩
     unfold execOp
     have X1:=eval_tmp X1
     clear CN hnk hwd hwa sd sa Dc Df Ac Af hownd howna hOB hbd hba GF
     go_simp
    | 3,_ =>
     obtain rfl:=Option.some.inj (ho.symm.trans (show _=some _ from rfl)) |>.symm
     have e2:a'.eval (.tmp 77) = .pointer (some ⟨w.heap.size,6,none⟩):=hS.eval (j:=2) rfl rfl (dep_of hw 2 (by kernel_rfl)) (of_decide_eq_true (by kernel_rfl))
     have hcc:∀p:Addr,p.block<wr.heap.size→w'.cell? p=wr.cell? p:=by
      rcases hP with⟨_,_,_,rfl⟩|⟨_,_,_,rfl⟩|⟨h8,_⟩|⟨h10,_⟩
      ·exact fun p _=>Dc p
      ·exact Ac
      ·exact(getD_tf hl (hC.c8 h8).2.1).elim
      ·have h8:=hC.c10 h10
       exact(getD_tf hl (hC.c8 h8).2.1).elim
     have k0:=(hcc ⟨w.heap.size,6,none⟩ lw0).trans a16
     refine .inl ⟨?_,hP.set hz (by decide) (by decide) (by decide) (by decide),hC.set hz (by decide) (fun h=>absurd h (by decide)) (fun h=>absurd h (by decide)) (fun h=>absurd h (by decide)) (fun h=>absurd h (by decide)) (fun h=>absurd h (by decide))⟩
     clear hP hC hS E1 E2 E3 E4 E5 E1' b16 a16
     unfold execOp
     have e2:=eval_tmp e2
     clear CN hnk hwd hwa sd sa Dc Df Ac Af hownd howna hOB hbd hba GF
     (try clear hcc)
     go_simp
    | 4,_ =>
     obtain rfl:=Option.some.inj (ho.symm.trans (show _=some _ from rfl)) |>.symm
     refine .inl ⟨?_,hP.set hz (by decide) (by decide) (by decide) (by decide),hC.set hz (by decide) (fun h=>absurd h (by decide)) (fun h=>absurd h (by decide)) (fun h=>absurd h (by decide)) (fun h=>absurd h (by decide)) (fun h=>absurd h (by decide))⟩
     unfold execOp
     have X7:=eval_tmp X7
     clear CN hnk hwd hwa sd sa Dc Df Ac Af hownd howna hOB hbd hba GF
     go_simp
    | 5,_ =>
     obtain rfl:=Option.some.inj (ho.symm.trans (show _=some _ from rfl)) |>.symm
     have e3:a'.eval (.tmp 78) = .slice (some a) A.ls.length A.cap:=hS.eval (j:=3) rfl rfl (dep_of hw 3 (by kernel_rfl)) (of_decide_eq_true (by kernel_rfl))
     have e4:a'.eval (.tmp 79) = .int .i64 j:=hS.eval (j:=4) rfl rfl (dep_of hw 4 (by kernel_rfl)) (of_decide_eq_true (by kernel_rfl))
     refine .inl ⟨?_,hP.set hz (by decide) (by decide) (by decide) (by decide),hC.set hz (by decide) (fun _=>dep_of hw 3 (by kernel_rfl)) (fun h=>absurd h (by decide)) (fun h=>absurd h (by decide)) (fun h=>absurd h (by decide)) (fun h=>absurd h (by decide))⟩
     unfold execOp
     have e3:=eval_tmp e3
     have e4:=eval_tmp e4
     clear CN hnk hwd hwa sd sa Dc Df Ac Af hownd howna hOB hbd hba GF
     go_simp
    | 6,_ =>
     obtain rfl:=Option.some.inj (ho.symm.trans (show _=some _ from rfl)) |>.symm
     have e5:a'.eval (.tmp 80) = .pointer (some (a.add (j*5))):=hS.eval (j:=5) rfl rfl (dep_of hw 5 (by kernel_rfl)) (of_decide_eq_true (by kernel_rfl))
     have hcc:∀p:Addr,p.block<wr.heap.size→w'.cell? p=wr.cell? p:=by
      rcases hP with⟨_,_,_,rfl⟩|⟨_,_,_,rfl⟩|⟨h8,_⟩|⟨h10,_⟩
      ·exact fun p _=>Dc p
      ·exact Ac
      ·exact(getD_tf hl (hC.c8 h8).2.2.1).elim
      ·have h8:=hC.c10 h10
       exact(getD_tf hl (hC.c8 h8).2.2.1).elim
     have k0:=(hcc (a.add (j*5)) lwa).trans E1
     have k1:=(hcc ⟨(a.add (j*5)).block,(a.add (j*5)).off+1,none⟩ lwa).trans E2
     have k2:=(hcc ⟨(a.add (j*5)).block,(a.add (j*5)).off+2,none⟩ lwa).trans E3
     have k3:=(hcc ⟨(a.add (j*5)).block,(a.add (j*5)).off+3,none⟩ lwa).trans E4
     have k4:=(hcc ⟨(a.add (j*5)).block,(a.add (j*5)).off+4,none⟩ lwa).trans E5
     refine .inl ⟨?_,hP.set hz (by decide) (by decide) (by decide) (by decide),hC.set hz (by decide) (fun h=>absurd h (by decide)) (fun _=>dep_of hw 5 (by kernel_rfl)) (fun h=>absurd h (by decide)) (fun h=>absurd h (by decide)) (fun h=>absurd h (by decide))⟩
     clear hP hC hS E1 E2 E3 E4 E5 E1' b16 a16
     unfold execOp
     have e5:=eval_tmp e5
     clear CN hnk hwd hwa sd sa Dc Df Ac Af hownd howna hOB hbd hba GF
     (try clear hcc)
     go_simp
    | 7,_ =>
     obtain rfl:=Option.some.inj (ho.symm.trans (show _=some _ from rfl)) |>.symm
     have e6:a'.eval (.tmp 81) = .agg #[.int .i64 b1c,.int .i64 b2c,.int .i64 b3c,.int .i64 b4c,.int .i64 b5c]:=hS.eval (j:=6) rfl rfl (dep_of hw 6 (by kernel_rfl)) (of_decide_eq_true (by kernel_rfl))
     have hw0:w'=wd:=by
      rcases hP with⟨_,_,_,h⟩|⟨h7,_⟩|⟨h8,_⟩|⟨h10,_⟩
      ·exact h
      ·exact(getD_tf hl h7).elim
      ·exact(getD_tf hl (hC.c8 h8).2.2.2).elim
      ·exact(getD_tf hl (hC.c8 (hC.c10 h10)).2.2.2).elim
     have h8:L.getD 8 false=false:=by cases h:L.getD 8 false;· rfl
                                      ·exact(getD_tf hl (hC.c8 h).2.2.2).elim
     have h10:L.getD 10 false=false:=by cases h:L.getD 10 false;· rfl
                                        ·rw[hC.c10 h]at h8;exact absurd h8 (by decide)
     have FN:RowPh (L.setIfInBounds 7 true) (fun w10=>w10.ownsRow w1.heap.size 52 5 x ((A.ls.length-(j+1))+1) (cellsOf (A.ls.reverse.take (A.ls.length-j)))∧wa.grownBy w10 V.ownBlock) wd wa (fun w10=>w10.setCell ⟨w.heap.size+1+1,6,none⟩ x) wa∧RowCl (L.setIfInBounds 7 true):=⟨.inr (.inl ⟨getI hz (by decide),by rw[getF hz (by decide) (by decide)];exact h8,by rw[getF hz (by decide) (by decide)];exact h10,rfl⟩),hC.set hz (by decide) (fun h=>absurd h (by decide)) (fun h=>absurd h (by decide)) (fun _=>dep_of hw 6 (by kernel_rfl)) (fun h=>absurd h (by decide)) (fun h=>absurd h (by decide))⟩
     replace FN:=Lib.hid FN
     subst hw0
     refine .inr ?_
     clear hP hC hS
     have e6:=eval_tmp e6
     have SD:=Lib.hid sd
     clear CN hnk hwd sd sa Dc Df Ac Af hownd howna hOB hbd hba GF
     subst hwa
     unfold Oper.wp execOp
     go_simp
     exact⟨by rw[SD.out],FN.out⟩
    | 8,_ =>
     obtain rfl:=Option.some.inj (ho.symm.trans (show _=some _ from rfl)) |>.symm
     have e1:a'.eval (.tmp 76)=V:=hS.eval (j:=1) rfl rfl (dep_of hw 1 (by kernel_rfl)) (of_decide_eq_true (by kernel_rfl))
     have e7:a'.eval (.tmp 82) = .slice (some ⟨wr.heap.size,0,none⟩) 1 1:=hS.eval (j:=7) rfl rfl (dep_of hw 7 (by kernel_rfl)) (of_decide_eq_true (by kernel_rfl))
     have hw0:w'=wa:=by
      rcases hP with⟨h7,_⟩|⟨_,_,_,h⟩|⟨h8,_⟩|⟨h10,_⟩
      ·rw[dep_of hw 7 (by kernel_rfl)]at h7;exact absurd h7 (by decide)
      ·exact h
      ·exact(getD_tf hl h8).elim
      ·exact(getD_tf hl (hC.c10 h10)).elim
     have h10:L.getD 10 false=false:=by cases h:L.getD 10 false;· rfl
                                        ·exact(getD_tf hl (hC.c10 h)).elim
     subst hw0
     refine .inr ?_
     refine oper_append_own _ _ 24 rfl w1.heap.size 52 ii _ 5 40 Tryz.underlying24 hi0 hi1 hi2 hi3 rfl (by decide) V (A.ls.length-(j+1)) (cellsOf (A.ls.reverse.take (A.ls.length-(j+1)))) e1 howna ⟨wr.heap.size,0,none⟩ 1 1 [.int .i64 b1c,.int .i64 b2c,.int .i64 b3c,.int .i64 b4c,.int .i64 b5c] e7 rfl (by rw[hwa];exact cell_five_at sd _ _ _ _ _ _) (five_cell _ _ _ _ _) HC.out.1 HC.out.2 (by omega) ?_
     intro V2 w10 hown2 hgrow
     exact⟨V2,fun h=>absurd rfl h,rfl,.inr (.inr (.inl ⟨getI hz (by decide),by rw[getF hz (by decide) (by decide)];exact h10,by rw[CN];exact hown2,hgrow⟩)),hC.set hz (by decide) (fun h=>absurd h (by decide)) (fun h=>absurd h (by decide)) (fun h=>absurd h (by decide)) (fun _=>⟨dep_of hw 1 (by kernel_rfl),dep_of hw 7 (by kernel_rfl)⟩) (fun h=>absurd h (by decide))⟩
    | 9,_ =>
     obtain rfl:=Option.some.inj (ho.symm.trans (show _=some _ from rfl)) |>.symm
     refine .inl ⟨?_,hP.set hz (by decide) (by decide) (by decide) (by decide),hC.set hz (by decide) (fun h=>absurd h (by decide)) (fun h=>absurd h (by decide)) (fun h=>absurd h (by decide)) (fun h=>absurd h (by decide)) (fun h=>absurd h (by decide))⟩
     unfold execOp
     have X6:=eval_tmp X6
     clear CN hnk hwd hwa sd sa Dc Df Ac Af hownd howna hOB hbd hba GF
     go_simp
    | 10,_ =>
     obtain rfl:=Option.some.inj (ho.symm.trans (show _=some _ from rfl)) |>.symm
     have e9:a'.eval (.tmp 84) = .pointer (some ⟨w.heap.size+1+1,6,none⟩):=hS.eval (j:=9) rfl rfl (dep_of hw 9 (by kernel_rfl)) (of_decide_eq_true (by kernel_rfl))
     have e8:a'.eval (.tmp 83)=x:=hS.eval (j:=8) rfl rfl (dep_of hw 8 (by kernel_rfl)) (of_decide_eq_true (by kernel_rfl))
     have hG3:L.getD 10 false=false∧w'.ownsRow w1.heap.size 52 5 x ((A.ls.length-(j+1))+1) (cellsOf (A.ls.reverse.take (A.ls.length-j)))∧wa.grownBy w' V.ownBlock:=by
      rcases hP with⟨_,h8,_⟩|⟨_,h8,_⟩|⟨_,h10,h⟩|⟨h10,_⟩
      ·rw[dep_of hw 8 (by kernel_rfl)]at h8;exact absurd h8 (by decide)
      ·rw[dep_of hw 8 (by kernel_rfl)]at h8;exact absurd h8 (by decide)
      ·exact⟨h10,h⟩
      ·exact(getD_tf hl h10).elim
     obtain⟨h10,hG3⟩:=hG3
     obtain⟨g1,g2,g3,g4,g5,g6,g7⟩:=GF.out x w' hG3.2
     have FN:RowPh (L.setIfInBounds 10 true) (fun w10=>w10.ownsRow w1.heap.size 52 5 x ((A.ls.length-(j+1))+1) (cellsOf (A.ls.reverse.take (A.ls.length-j)))∧wa.grownBy w10 V.ownBlock) wd wa (fun w10=>w10.setCell ⟨w.heap.size+1+1,6,none⟩ x) (w'.setCell ⟨w.heap.size+1+1,6,none⟩ x)∧RowCl (L.setIfInBounds 10 true):=⟨.inr (.inr (.inr ⟨getI hz (by decide),w',hG3,rfl⟩)),hC.set hz (by decide) (fun h=>absurd h (by decide)) (fun h=>absurd h (by decide)) (fun h=>absurd h (by decide)) (fun h=>absurd h (by decide)) (fun _=>dep_of hw 8 (by kernel_rfl))⟩
     replace FN:=Lib.hid FN
     refine .inr ?_
     clear hP hC hS
     have e9:=eval_tmp e9
     have e8:=eval_tmp e8
     have gl:=(g1 6).trans (show _=some V from rfl)
     have gf:=g2 6
     have hx:∃pp n c,x = .slice pp n c:=by
      rcases hG3.1.2 with⟨e,_⟩|⟨g,cap,cur,e,_⟩
      ·exact⟨_,_,_,e⟩
      ·exact⟨_,_,_,e⟩
     clear CN hnk hwd hwa sd sa Dc Df Ac Af hownd howna hOB hbd hba GF g1 g2 g3 g4 g5 g6 g7 hG3
     obtain⟨pp,pn,pc,rfl⟩:=hx
     unfold Oper.wp execOp
     go_simp
     exact FN.out
    | n+11,h=>exact absurd h (by omega)
   case last =>
    intro x L w' hs hall hF
    obtain⟨hP,hC⟩:=hF
    have al:∀j,j<11→L.getD j false=true:=fun j hj=>by
     have h1:=hall j hj
     have h2:j<L.size:=by rw[hs];exact hj
     rw[Array.getD_eq_getD_getElem?,Array.getElem?_eq_getElem h2]at h1 ⊢
     exact h1
    obtain⟨w10,hG,rfl⟩:∃w10:World,(w10.ownsRow w1.heap.size 52 5 x ((A.ls.length-(j+1))+1) (cellsOf (A.ls.reverse.take (A.ls.length-j)))∧wa.grownBy w10 V.ownBlock)∧w'=w10.setCell ⟨w.heap.size+1+1,6,none⟩ x:=by
     rcases hP with⟨h7,_⟩|⟨_,h8,_⟩|⟨_,h10,_⟩|⟨_,h⟩
     ·rw[al 7 (by decide)]at h7;exact absurd h7 (by decide)
     ·rw[al 8 (by decide)]at h8;exact absurd h8 (by decide)
     ·rw[al 10 (by decide)]at h10;exact absurd h10 (by decide)
     ·exact h
    obtain⟨g1,g2,g3,g4,g5,g6,g7⟩:=GF.out x w10 hG.2
    have hown4:(w10.setCell ⟨w.heap.size+1+1,6,none⟩ x).ownsRow w1.heap.size 52 5 x (A.ls.length-j) (cellsOf (A.ls.reverse.take (A.ls.length-j))):=by
     rw[hnk]
     rw[hnk]at hG
     exact ownsRow_setCell_below hG.1 (a:=⟨w.heap.size+1+1,6,none⟩) l1 x
    have hown4:=Lib.hid hown4
    have n10:w.heap.size+1+1<w10.heap.size:=by omega
    clear hP hC hall al hG
    simp only[List.size_toArray,List.length_cons,List.length_nil,Nat.zero_add,Nat.reduceAdd,putAll,List.getElem?_toArray,List.getElem?_cons_zero,List.getElem?_cons_succ,Act.put,List.setIfInBounds_toArray,List.set_cons_zero,List.set_cons_succ,Array.getD_eq_getD_getElem?,Option.getD_some]
    have q1:∀o,(w10.setCell ⟨w.heap.size+1+1,6,none⟩ x).cell? ⟨w.heap.size+1+1,o,none⟩=(#[.int .i64 A.oi,.int .i64 S,.int .i64 T,.int .i64 A.po,.int .i64 A.wl,.int .i64 A.wh,x,.int .i64 A.ix,.int .i64 0]:Array Value)[o]?:=fun o=>by
     by_cases e6:o=6
     ·subst e6
      exact(World.cell?_setCell_same (u:=V) _ _ _ ((g1 6).trans rfl)).trans rfl
     ·refine(World.cell?_setCell_other _ _ _ _ (fun h=>e6 (by injection h with _ h2;omega))).trans ((g1 o).trans ?_)
      match o,e6 with
      | 0,_=>rfl
      | 1,_=>rfl
      | 2,_=>rfl
      | 3,_=>rfl
      | 4,_=>rfl
      | 5,_=>rfl
      | 6,h=>exact absurd rfl h
      | 7,_=>rfl
      | 8,_=>rfl
      | n+9,_=>rfl
    have q2:∀o,(w10.setCell ⟨w.heap.size+1+1,6,none⟩ x).frozen? ⟨w.heap.size+1+1,o,none⟩=false:=fun o=>(World.frozen?_setCell _ _ _ _).trans (g2 o)
    have q3:∀o,(w10.setCell ⟨w.heap.size+1+1,6,none⟩ x).cell? ⟨w.heap.size+1,o,none⟩=w10.cell? ⟨w.heap.size+1,o,none⟩:=fun o=>World.cell?_setCell_other _ _ _ _ (fun h=>by injection h with h1 _;omega)
    have q4:∀o,(w10.setCell ⟨w.heap.size+1+1,6,none⟩ x).frozen? ⟨w.heap.size+1,o,none⟩=false:=fun o=>(World.frozen?_setCell _ _ _ _).trans (g4 o)
    have q5:∀o,(w10.setCell ⟨w.heap.size+1+1,6,none⟩ x).cell? ⟨w.heap.size,o,none⟩=w10.cell? ⟨w.heap.size,o,none⟩:=fun o=>World.cell?_setCell_other _ _ _ _ (fun h=>by injection h with h1 _;omega)
    have q6:w1.heap.size≤(w10.setCell ⟨w.heap.size+1+1,6,none⟩ x).heap.size:=by first|(simp;done)|(simp;omega)
    have q7:Below w.heap.size w (w10.setCell ⟨w.heap.size+1+1,6,none⟩ x):=g7.setCell (show w.heap.size≤w.heap.size+1+1 by omega) x
    have Q:=Lib.hid (And.intro q7 (And.intro q6 (And.intro (fun o=>(q5 o).trans (g5 o)) (And.intro (fun o=>(q3 o).trans (g3 o)) (And.intro q4 (And.intro q1 q2))))))
    generalize w10.setCell ⟨w.heap.size+1+1,6,none⟩ x=w11 at *
    clear q1 q2 q3 q4 q5 q6 q7 g1 g2 g3 g4 g5 g6 g7 GF
    go_wp2_with fail
    go_roundw
    case rel=>exact⟨j,x,by omega,by first|rfl|(simp;done)|(simp;omega),Q.out.1,Q.out.2.1,Q.out.2.2.1,Q.out.2.2.2.1,Q.out.2.2.2.2.1,Q.out.2.2.2.2.2.1,Q.out.2.2.2.2.2.2,hown4.out⟩
    case measure=>first|(simp[intOf];done)|(simp[intOf];omega)
end Go.Proofs.YtnljkhlmdacfaaaGreatDoor
