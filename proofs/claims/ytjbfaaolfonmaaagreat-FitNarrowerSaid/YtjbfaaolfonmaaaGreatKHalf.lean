/- Joined: Halves HalfWalk CutOf RHalf Boxes. -/
import Derived.Test.YtjbfaaolfonmaaaGreatKEnd
import Derived.Test.YtjbfaaolfonmaaaGreatKFit
import Derived.Deep.RegionWith
namespace Go.Proofs.YtjbfaaolfonmaaaGreat
open Go Go.Sort Go.RowKit
def Box.dlo (b:Box) (d:Nat):Int:=if d%2=0 then b.il else b.tl
def Box.dhi (b:Box) (d:Nat):Int:=if d%2=0 then b.ih else b.th
def Box.putLo (b:Box) (d:Nat) (m:Int):Box:=if d%2=0 then { b with il:=m} else { b with tl:=m}
def Box.putHi (b:Box) (d:Nat) (m:Int):Box:=if d%2=0 then { b with ih:=m} else { b with th:=m}
@[irreducible] def cellAt (d:Nat):Nat:=d/2*5+(if d%2=0 then 0 else 2)
theorem cellAt_even {d:Nat} (h:d%2=0):cellAt d=d/2*5:=by unfold cellAt;rw[if_pos h];rfl
theorem cellAt_odd {d:Nat} (h:¬d%2=0):cellAt d=d/2*5+2:=by unfold cellAt;rw[if_neg h]
@[irreducible] def dLo (ls:List Box) (d:Nat):Int:=match ls[d/2]? with|some b=>b.dlo d|none=>0
@[irreducible] def dHi (ls:List Box) (d:Nat):Int:=match ls[d/2]? with|some b=>b.dhi d|none=>0
theorem dLo_is {ls:List Box}{d:Nat}{b:Box} (h:ls[d/2]?=some b):dLo ls d=b.dlo d:=by unfold dLo;rw[h]
theorem dHi_is {ls:List Box}{d:Nat}{b:Box} (h:ls[d/2]?=some b):dHi ls d=b.dhi d:=by unfold dHi;rw[h]
@[irreducible] def lowHalf (ls:List Box) (d:Nat):List Box:=match ls[d/2]? with|some b=>ls.set (d/2) (b.putHi d ((dLo ls d+dHi ls d)/2))|none=>ls
@[irreducible] def highHalf (ls:List Box) (d:Nat):List Box:=match ls[d/2]? with|some b=>ls.set (d/2) (b.putLo d ((dLo ls d+dHi ls d)/2+1))|none=>ls
theorem lowHalf_is {ls:List Box}{d:Nat}{b:Box} (h:ls[d/2]?=some b):lowHalf ls d=ls.set (d/2) (b.putHi d ((b.dlo d+b.dhi d)/2)):=by unfold lowHalf;rw[h,dLo_is h,dHi_is h]
theorem highHalf_is {ls:List Box}{d:Nat}{b:Box} (h:ls[d/2]?=some b):highHalf ls d=ls.set (d/2) (b.putLo d ((b.dlo d+b.dhi d)/2+1)):=by unfold highHalf;rw[h,dLo_is h,dHi_is h]
theorem lowHalf_len (ls:List Box) (d:Nat):(lowHalf ls d).length=ls.length:=by unfold lowHalf;split<;>simp
theorem highHalf_len (ls:List Box) (d:Nat):(highHalf ls d).length=ls.length:=by unfold highHalf;split<;>simp
def widB (ls:List Box):Nat→Int × Int
 | 0=>(0,0)
 | k+1=>if (widB ls k).2<dHi ls k-dLo ls k then((k:Int),dHi ls k-dLo ls k)else widB ls k
theorem widB_up {ls:List Box}{k:Nat} (h:(widB ls k).2<dHi ls k-dLo ls k):widB ls (k+1)=((k:Int),dHi ls k-dLo ls k):=by rw[widB,if_pos h]
theorem widB_no {ls:List Box}{k:Nat} (h:¬(widB ls k).2<dHi ls k-dLo ls k):widB ls (k+1)=widB ls k:=by rw[widB,if_neg h]
theorem widB_nonneg (ls:List Box) (k:Nat):0≤(widB ls k).2:=by
 induction k with
 | zero=>exact Int.le_refl _
 | succ k ih =>
  by_cases h:(widB ls k).2<dHi ls k-dLo ls k
  ·rw[widB_up h];simp only;omega
  ·rw[widB_no h];exact ih
theorem dlo_bd {b:Box} (h:BoxOk b) (d:Nat):0≤b.dlo d∧b.dlo d≤b.dhi d∧b.dhi d≤1000000:=by
 obtain⟨h0,h1,h2,h3,h4,h5,h6,h7⟩:=h
 unfold Box.dlo Box.dhi
 split<;>omega
theorem dLo_bd {ls:List Box} (h:∀b∈ls,BoxOk b) (d:Nat):0≤dLo ls d∧dLo ls d≤dHi ls d∧dHi ls d≤1000000:=by
 unfold dLo dHi
 split
 ·rename_i b hb;exact dlo_bd (h b (List.mem_of_getElem? hb)) d
 ·decide
theorem put_ok {b:Box} (h:BoxOk b) (d:Nat):BoxOk (b.putHi d ((b.dlo d+b.dhi d)/2)):=by
 obtain⟨h0,h1,h2,h3,h4,h5,h6,h7⟩:=h
 unfold Box.putHi Box.dlo Box.dhi
 split<;>exact⟨by simp only;omega,by simp only;omega,by simp only;omega,by simp only;omega,by simp only;omega,by simp only;omega,by simp only;omega,by simp only;omega⟩
theorem put_ok2 {b:Box} (h:BoxOk b) (d:Nat) (hd:b.dlo d<b.dhi d):BoxOk (b.putLo d ((b.dlo d+b.dhi d)/2+1)):=by
 obtain⟨h0,h1,h2,h3,h4,h5,h6,h7⟩:=h
 unfold Box.dlo Box.dhi at hd
 unfold Box.putLo Box.dlo Box.dhi
 split at hd<;>(rename_i hc;first|rw[if_pos hc]|rw[if_neg hc])<;>exact⟨by simp only;omega,by simp only;omega,by simp only;omega,by simp only;omega,by simp only;omega,by simp only;omega,by simp only;omega,by simp only;omega⟩
theorem own_at (a:Nat) (k:Nat):(⟨a,0,none⟩:Addr).add k=⟨a,k,none⟩:=by
 unfold Addr.add
 by_cases h:k=0
 ·subst h;simp
 ·simp[h]
theorem OwnBox.put {ls:List Box}{N g j i:Nat}{w:World}{b b':Box}{v:Int} (h:OwnBox ls N g w) (hj:ls[j]?=some b) (hi:i<5) (hb:∀k,k<5→b'.five[k]?=if k=i then some (.int .i64 v)else b.five[k]?) :
  OwnBox (ls.set j b') N g (w.setCell ⟨g,j*5+i,none⟩ (.int .i64 v)):=by
 refine⟨h.lo,by simpa using h.hi,fun k c hk=>boxAt_five.2 fun m hm => ?_,fun o=>(World.frozen?_setCell _ _ _ _).trans (h.free o)⟩
 have hjl:j<ls.length:=(List.getElem?_eq_some_iff.1 hj).1
 rw[own_at]
 have e1:(⟨g,k*5,none⟩:Addr).add m=⟨g,k*5+m,none⟩:=by rw[← own_at g (k*5),add_more,own_at]
 rw[e1]
 by_cases hkj:k=j
 ·subst hkj
  rw[List.getElem?_set_self hjl]at hk
  simp only[Option.some.injEq]at hk
  subst hk
  rw[hb m hm]
  have hb0:=boxAt_five.1 (h.at' k b hj) m hm
  rw[own_at,e1]at hb0
  by_cases hmi:m=i
  ·subst hmi
   rw[if_pos rfl]
   refine World.cell?_setCell_same (u:=(b.five[m]?).getD (.bool true)) _ _ _ ?_
   rw[hb0]
   have:m<b.five.length:=by simp[Box.five];omega
   rw[List.getElem?_eq_getElem this]
   rfl
  ·rw[if_neg hmi,← hb0]
   exact World.cell?_setCell_other _ _ _ _ (fun e=>by injection e with _ e2;omega)
 ·rw[List.getElem?_set_ne (fun e=>hkj e.symm)]at hk
  have hb0:=boxAt_five.1 (h.at' k c hk) m hm
  rw[own_at,e1]at hb0
  rw[← hb0]
  exact World.cell?_setCell_other _ _ _ _ (fun e=>by injection e with _ e2;omega)
end Go.Proofs.YtjbfaaolfonmaaaGreat
namespace Go.Proofs.YtjbfaaolfonmaaaGreat
open Go Go.Sort Go.RowKit
set_option maxHeartbeats 1000000 in
theorem at_any (a:Addr) (n cap d:Nat) (hd:d/2<n) (hn:n≤1000) (w:World) :
  Calls Tryz.prog 144 #[.slice (some a) n cap,.int .i64 d] w fun e w'=>e = .returned (.pointer (some (a.add (cellAt d))))∧w'=w:=by
 have t1:((d:Int)).tdiv 2=((d/2:Nat):Int):=by rw[Int.tdiv_eq_ediv_of_nonneg (by omega)];omega
 have t3:((d/2:Nat):Int)<n:=by omega
 have t4:wrap64 ((d/2:Nat):Int)=((d/2:Nat):Int):=IntWalk.wrap64_in _ ⟨by omega,by omega⟩
 by_cases h:d%2=0
 ·rw[cellAt_even h]
  have t2:((d:Int)).tmod 2=0:=by rw[Int.tmod_eq_emod_of_nonneg (by omega)];omega
  generalize hj:d/2=j at *
  clear h hj
  go_enter Tryz.func144,Tryz.ntmps144
  repeat' (first|go_values|go_skip|go_guarded|go_step|go_upon|(simp only[];go_simp))
  go_ret
  exact⟨rfl,rfl⟩
 ·rw[cellAt_odd h,← add_more]
  have t2:((d:Int)).tmod 2=1:=by rw[Int.tmod_eq_emod_of_nonneg (by omega)];omega
  generalize hj:d/2=j at *
  clear h hj
  go_enter Tryz.func144,Tryz.ntmps144
  repeat' (first|go_values|go_skip|go_guarded|go_step|go_upon|(simp only[];go_simp))
  go_ret
  exact⟨rfl,rfl⟩
theorem at_own (g n cap d:Nat) (hd:d/2<n) (hn:n≤1000) (w:World) :
  Calls Tryz.prog 144 #[.slice (some ⟨g,0,none⟩) n cap,.int .i64 d] w fun e w'=>e = .returned (.pointer (some ⟨g,cellAt d,none⟩))∧w'=w:=by
 have h:=at_any ⟨g,0,none⟩ n cap d hd hn w
 rw[own_at]at h
 exact h
theorem Row.range {a:Addr}{ls:List Box}{w:World}{d:Nat}{b:Box} (h:Row (some a) ls w) (hb:ls[d/2]?=some b) :
  w.cell? (a.add (cellAt d))=some (.int .i64 (b.dlo d))∧w.cell? ⟨(a.add (cellAt d)).block,(a.add (cellAt d)).off+1,none⟩=some (.int .i64 (b.dhi d)):=by
 obtain⟨a',ha,_,h0⟩:=h.get _ b hb
 cases ha
 have h5:=boxAt_five.1 h0
 have off:∀k:Nat,(⟨(a.add k).block,(a.add k).off+1,none⟩:Addr)=a.add (k+1):=by
  intro k
  unfold Addr.add
  by_cases hk:k=0
  ·subst hk;simp
  ·simp[hk];omega
 rw[off]
 unfold Box.dlo Box.dhi
 by_cases h:d%2=0
 ·rw[cellAt_even h,if_pos h,if_pos h]
  have k0:=h5 0 (by omega)
  have k1:=h5 1 (by omega)
  rw[add_more]at k0 k1
  exact⟨k0,k1⟩
 ·rw[cellAt_odd h,if_neg h,if_neg h]
  have k0:=h5 2 (by omega)
  have k1:=h5 3 (by omega)
  rw[add_more]at k0 k1
  exact⟨k0,k1⟩
theorem OwnBox.range {ls:List Box}{N g:Nat}{w:World}{d:Nat}{b:Box} (h:OwnBox ls N g w) (hb:ls[d/2]?=some b) :
  w.cell? ⟨g,cellAt d,none⟩=some (.int .i64 (b.dlo d))∧w.cell? ⟨g,cellAt d+1,none⟩=some (.int .i64 (b.dhi d)):=by
 have k:=h.row.range hb
 rw[own_at]at k
 exact k
theorem OwnBox.putHi {ls:List Box}{N g:Nat}{w:World}{d:Nat}{b:Box} (h:OwnBox ls N g w) (hb:ls[d/2]?=some b) (m:Int) :
  OwnBox (ls.set (d/2) (b.putHi d m)) N g (w.setCell ⟨g,cellAt d+1,none⟩ (.int .i64 m)):=by
 by_cases hd:d%2=0
 ·have k:=h.put (i:=1) (v:=m) (b':=b.putHi d m) hb (by omega) (by
   intro k hk
   unfold Box.putHi
   rw[if_pos hd]
   match k,hk with
   | 0,_=>rfl
   | 1,_=>rfl
   | 2,_=>rfl
   | 3,_=>rfl
   | 4,_=>rfl)
  rw[cellAt_even hd]
  exact k
 ·have k:=h.put (i:=3) (v:=m) (b':=b.putHi d m) hb (by omega) (by
   intro k hk
   unfold Box.putHi
   rw[if_neg hd]
   match k,hk with
   | 0,_=>rfl
   | 1,_=>rfl
   | 2,_=>rfl
   | 3,_=>rfl
   | 4,_=>rfl)
  rw[cellAt_odd hd]
  exact k
theorem OwnBox.putLo {ls:List Box}{N g:Nat}{w:World}{d:Nat}{b:Box} (h:OwnBox ls N g w) (hb:ls[d/2]?=some b) (m:Int) :
  OwnBox (ls.set (d/2) (b.putLo d m)) N g (w.setCell ⟨g,cellAt d,none⟩ (.int .i64 m)):=by
 by_cases hd:d%2=0
 ·have k:=h.put (i:=0) (v:=m) (b':=b.putLo d m) hb (by omega) (by
   intro k hk
   unfold Box.putLo
   rw[if_pos hd]
   match k,hk with
   | 0,_=>rfl
   | 1,_=>rfl
   | 2,_=>rfl
   | 3,_=>rfl
   | 4,_=>rfl)
  rw[cellAt_even hd]
  exact k
 ·have k:=h.put (i:=2) (v:=m) (b':=b.putLo d m) hb (by omega) (by
   intro k hk
   unfold Box.putLo
   rw[if_neg hd]
   match k,hk with
   | 0,_=>rfl
   | 1,_=>rfl
   | 2,_=>rfl
   | 3,_=>rfl
   | 4,_=>rfl)
  rw[cellAt_odd hd]
  exact k
theorem OwnBox.drew {ls:List Box}{N g:Nat}{w:World} (h:OwnBox ls N g w):OwnBox ls N g w.drew:=h.bel (Below.refl _ _).drew
def Cut (H0 H1:List Box) (n:Nat) (w:World) (E:Ending) (w':World) (q:Value):Prop:=∃g0 c0 g1 c1,E = .returned (.tuple #[.agg #[.slice (some ⟨g0,0,none⟩) n c0,.slice (some ⟨g1,0,none⟩) n c1],q]) ∧
 OwnBox H0 w.heap.size g0 w'∧OwnBox H1 w.heap.size g1 w'∧Below w.heap.size w w'
set_option maxHeartbeats 4000000 in
theorem cut_walk (a:Addr) (ls:List Box) (cap d:Nat) (b:Box) (hb:ls[d/2]?=some b) (hk:BoxOk b) (hn:ls.length≤1000) (w:World) (hr:Row (some a) ls w) :
  Calls Tryz.prog 91 #[.slice (some a) ls.length cap,.int .i64 d] w fun E w'=>Cut (lowHalf ls d) (highHalf ls d) ls.length w E w' (.bool (decide (b.dlo d<b.dhi d))):=by
 have hd:d/2<ls.length:=(List.getElem?_eq_some_iff.1 hb).1
 have AT:=Lib.hid (fun w=>at_any a ls.length cap d hd hn w)
 have AO:=Lib.hid (fun g cap w=>at_own g ls.length cap d hd hn w)
 have CL:=Lib.hid (fun w hr=>clone_any a ls cap w hr hn)
 obtain⟨r0,r1⟩:=hr.range hb
 have bd:=dlo_bd hk d
 have hl:w.cell? (a.add (cellAt d))≠none:=by rw[r0];exact fun h=>by cases h
 have hlt:=World.block_lt_of_cell? w _ r0
 rw[lowHalf_is hb,highHalf_is hb]
 have HR:=Lib.hid hr
 have HB:=Lib.hid hb
 clear hk hd hr hb hl
 generalize hlo:b.dlo d=lo at *
 generalize hhi:b.dhi d=hi at *
 have e1:(lo+hi).tdiv 2=(lo+hi)/2:=Int.tdiv_eq_ediv_of_nonneg (by omega)
 generalize hm:(lo+hi)/2=m at *
 have hmb:0≤m∧m≤1000000:=by omega
 have HM:=Lib.hid hm
 have HL:=Lib.hid hlo
 have HH:=Lib.hid hhi
 clear hm hlo hhi
 generalize hN:ls.length=n at *
 have na:¬(a.add (cellAt d)).block=w.heap.size:=by omega
 go_enter Tryz.func91,Tryz.ntmps91
 go_wp2_with fail
 refine(AT.out _).mono ?_
 rintro e w' ⟨rfl,rfl⟩
 go_wp2_with fail
 refine(CL.out _ (HR.out.bel blw)).mono ?_
 rintro E w1 ⟨g0,c0,rfl,ho0,A0⟩
 have A2:=A0.size
 (try simp at A2)
 have A4:=bl5 A0 (w.heap.size)
 have Al:=bl5 A0 (w.heap.size+1)
 go_wp2_with fail
 refine(CL.out _ (HR.out.bel blw)).mono ?_
 rintro E w2 ⟨g1,c1,rfl,ho1,A1⟩
 have A3:=A1.size
 (try simp at A3)
 have Ab:=bl5 A1 (w.heap.size)
 have Am:=bl5 A1 (w.heap.size+1)
 have hg00:=ho0.hi
 have ho0:=ho0.bel A1
 have hg0:=ho0.hi
 have hg1:=ho1.hi
 have hl0:=ho0.lo
 have hl1:=ho1.lo
 simp at hl0
 have W1:IntKind.i64.wrap (lo+hi)=lo+hi:=IntWalk.i64_in _ ⟨by omega,by omega⟩
 have W2:wrap64 (lo+hi)=lo+hi:=IntWalk.wrap64_in _ ⟨by omega,by omega⟩
 have W3:IntKind.i64.wrap m=m:=IntWalk.i64_in _ ⟨by omega,by omega⟩
 have W4:wrap64 m=m:=IntWalk.wrap64_in _ ⟨by omega,by omega⟩
 have W5:IntKind.i64.wrap (m+1)=m+1:=IntWalk.i64_in _ ⟨by omega,by omega⟩
 have W6:wrap64 (m+1)=m+1:=IntWalk.wrap64_in _ ⟨by omega,by omega⟩
 repeat (first|(with_reducible refine wp_markr 4 ?_)|go_values|go_skip|go_guarded|go_step|go_upon|(simp only[];go_simp))
 refine wp_named (fun w3 A5 => ?_)
 have hb23:Below w2.heap.size w2 w3:=by rw[A5];exact blw
 have A8:=congrArg (fun w=>w.heap.size) A5
 (try simp at A8)
 replace A8:=Nat.le_of_eq A8.symm
 have A6:Below w.heap.size w w3:=(by rw[A5];exact blw)
 have Ae:=cas A5 (w.heap.size) [.slice none 0 0,.slice none 0 0]
 have Ac:=cas A5 (w.heap.size+1) [.int .i64 lo,.int .i64 hi]
 have Ad:=cas A5 (w2.heap.size) [.slice (some ⟨g0,0,none⟩) n c0,.slice (some ⟨g1,0,none⟩) n c1]
 simp only[CAf,Nat.reduceAdd,and_true]at Ae Ac Ad
 clear A5
 have ho0:=(ho0.bel hb23).low (M:=w.heap.size) (by simp;omega)
 have ho1:=(ho1.bel hb23).low (M:=w.heap.size) (by have:=A0.size;omega)
 obtain⟨k0,k1⟩:=ho0.range HB.out
 obtain⟨k2,k3⟩:=ho1.range HB.out
 have fr0:=ho0.free
 have fr1:=ho1.free
 have d0:¬g0=g1:=by omega
 have d1:¬g1=g0:=by omega
 have d2:¬g0=w.heap.size:=by omega
 have d3:¬g1=w.heap.size:=by have:=A0.size;simp at this;omega
 have d4:¬g0=w.heap.size+1:=by omega
 have d5:¬g1=w.heap.size+1:=by have:=A0.size;simp at this;omega
 have d6:¬g0=w2.heap.size:=by omega
 have d7:¬g1=w2.heap.size:=by omega
 have d8:¬w.heap.size=g0:=by omega
 have d9:¬w.heap.size=g1:=by omega
 have d10:¬w.heap.size+1=g0:=by omega
 have d11:¬w.heap.size+1=g1:=by omega
 have d12:¬w2.heap.size=g0:=by omega
 have d13:¬w2.heap.size=g1:=by omega
 rw[HL.out]at k0 k2
 rw[HH.out]at k1 k3
 have P0:=ho0.putHi HB.out m
 have P1:=(ho1.far (a:=⟨g0,cellAt d+1,none⟩) (v := .int .i64 m) d0).putLo HB.out (m+1)
 have P0:=P0.far (a:=⟨g1,cellAt d,none⟩) (v := .int .i64 (m+1)) d1
 have P0:=Lib.hid P0
 have P1:=Lib.hid P1
 have lg0:w.heap.size≤g0:=ho0.lo
 have lg1:w.heap.size≤g1:=ho1.lo
 clear ho0 ho1 hb23 A0 A1
 go_wp2_with fail
 refine(AO.out g0 c0 _).mono ?_
 rintro e w' ⟨rfl,rfl⟩
 go_wp2_with fail
 refine(AO.out g1 c1 _).mono ?_
 rintro e w' ⟨rfl,rfl⟩
 go_wp2_with fail
 go_region_held3 (fun w'=>w'.cell? ⟨w2.heap.size,0,none⟩=some (Value.slice (some ⟨g0,0,none⟩) n c0)∧w'.cell? ⟨w2.heap.size,1,none⟩=some (Value.slice (some ⟨g1,0,none⟩) n c1)∧w'.cell? ⟨w.heap.size+1,0,none⟩=some (Value.int .i64 lo)∧w'.cell? ⟨w.heap.size+1,1,none⟩=some (Value.int .i64 hi)) (simp[*,go_sem]) (fail)
 repeat' (first|go_values|go_skip|go_guarded|go_step|go_upon|(simp only[];go_simp))
 refine bodyPost_ret (by simp[results,Tryz.results91,go_sem, *];first|done|rfl) rfl ?_
 have P0:=P0.out
 have P1:=P1.out
 exact⟨g0,c0,g1,c1,rfl,(by repeat' (first|(with_reducible assumption)|(with_reducible refine OwnBox.drew ?_)|(with_reducible refine OwnBox.far ?_ ?_))),(by repeat' (first|(with_reducible assumption)|(with_reducible refine OwnBox.drew ?_)|(with_reducible refine OwnBox.far ?_ ?_))),blw⟩
theorem widB_lt {ls:List Box}{k:Nat}{b:Box} (hb:ls[k/2]?=some b):(widB ls k).2<dHi ls k-dLo ls k↔(widB ls k).2<b.dhi k-b.dlo k:=by rw[dHi_is hb,dLo_is hb]
def HidW (ls:List Box) (T:Int × Int) (k:Nat):Prop:=widB ls k=T
set_option maxHeartbeats 4000000 in
theorem widest_any (a:Addr) (ls:List Box) (cap:Nat) (hk:∀b∈ls,BoxOk b) (hn:ls.length≤1000) (w:World) (hr:Row (some a) ls w) :
  Calls Tryz.prog 96 #[.slice (some a) ls.length cap] w fun E w' =>
   E = .returned (.tuple #[.int .i64 (widB ls (2*ls.length)).1,.bool (decide (0<(widB ls (2*ls.length)).2))])∧Below w.heap.size w w':=by
 obtain⟨T,hT⟩:∃T,widB ls (2*ls.length)=T:=⟨_,rfl⟩
 rw[hT]
 obtain⟨R0,R1⟩:=T
 simp only
 have hT:=Lib.hid hT
 have W0:IntKind.i64.wrap (2*(ls.length:Int))=2*ls.length:=IntWalk.i64_in _ ⟨by omega,by omega⟩
 have W1:wrap64 (2*(ls.length:Int))=2*ls.length:=IntWalk.wrap64_in _ ⟨by omega,by omega⟩
 go_enter Tryz.func96,Tryz.ntmps96
 go_wp2_with fail
 go_loopw [4,5,11] (fun u v i wr=>∃(k:Nat) (T0 T1:Int),k≤2*ls.length∧i = .int .i64 k∧u = .int .i64 T0∧v = .int .i64 T1∧HidW ls (T0,T1) k∧0≤T1∧T1≤1000000∧Below w.heap.size w wr) (fun _ _ i _=>2*ls.length-(intOf i).toNat)
 case atStart=>exact⟨0,0,0,by omega,rfl,rfl,rfl,rfl,by decide,by decide,blw⟩
 case round =>
  obtain⟨k,T0,T1,hkn,rfl,rfl,rfl,HT,t0,t1,A7⟩:=hrel
  by_cases hlt:k<2*ls.length
  ·obtain⟨b,hb⟩:∃b,ls[k/2]?=some b:=⟨_,List.getElem?_eq_getElem (by omega)⟩
   obtain⟨r0,r1⟩:=(hr.bel A7).range hb
   have bd:=dlo_bd (hk b (List.mem_of_getElem? hb)) k
   have AT:=Lib.hid (fun w=>at_any a ls.length cap k (by omega) hn w)
   have hlt2:(k:Int)<2*ls.length:=by omega
   have H2:(widB ls k).2=T1:=by unfold HidW at HT;rw[HT]
   by_cases hw:T1<b.dhi k-b.dlo k
   ·have HT':HidW ls ((k:Int),b.dhi k-b.dlo k) (k+1):=by
     unfold HidW
     rw[widB_up (by rw[widB_lt hb,H2];exact hw),dHi_is hb,dLo_is hb]
    have HT':=Lib.hid HT'
    generalize b.dlo k=lo at *
    generalize b.dhi k=hi at *
    have W2:IntKind.i64.wrap (hi-lo)=hi-lo:=IntWalk.i64_in _ ⟨by omega,by omega⟩
    have W3:wrap64 (hi-lo)=hi-lo:=IntWalk.wrap64_in _ ⟨by omega,by omega⟩
    generalize hN:ls.length=n at *
    clear HT H2 hb hr
    go_wp2_with fail
    refine(AT.out _).mono ?_
    rintro e w' ⟨rfl,rfl⟩
    go_wp2_with fail
    go_region_held3 (fun w'=>w'.cell? (a.add (cellAt k))=some (.int .i64 lo)∧w'.cell? ⟨(a.add (cellAt k)).block,(a.add (cellAt k)).off+1,none⟩=some (.int .i64 hi)) (simp[*,go_sem]) (fail)
    go_wp2_with fail
    go_region_held3 (fun w'=>w'.cell? (a.add (cellAt k))=some (.int .i64 lo)∧w'.cell? ⟨(a.add (cellAt k)).block,(a.add (cellAt k)).off+1,none⟩=some (.int .i64 hi)) (simp[*,go_sem]) (fail)
    go_wp2_with fail
    go_roundw
    case rel=>exact⟨k+1,(k:Int),hi-lo,by omega,by first|(simp;done)|(simp;omega),rfl,rfl,HT'.out,by omega,by omega,blw⟩
    case measure=>simp[intOf];omega
   ·have HT':HidW ls (T0,T1) (k+1):=by
     unfold HidW at HT ⊢
     rw[widB_no (by rw[widB_lt hb,H2];exact hw),HT]
    have HT':=Lib.hid HT'
    generalize b.dlo k=lo at *
    generalize b.dhi k=hi at *
    have W2:IntKind.i64.wrap (hi-lo)=hi-lo:=IntWalk.i64_in _ ⟨by omega,by omega⟩
    have W3:wrap64 (hi-lo)=hi-lo:=IntWalk.wrap64_in _ ⟨by omega,by omega⟩
    generalize hN:ls.length=n at *
    clear HT H2 hb hr
    go_wp2_with fail
    refine(AT.out _).mono ?_
    rintro e w' ⟨rfl,rfl⟩
    go_wp2_with fail
    go_region_held3 (fun w'=>w'.cell? (a.add (cellAt k))=some (.int .i64 lo)∧w'.cell? ⟨(a.add (cellAt k)).block,(a.add (cellAt k)).off+1,none⟩=some (.int .i64 hi)) (simp[*,go_sem]) (fail)
    go_wp2_with fail
    go_roundw
    case rel=>exact⟨k+1,T0,T1,by omega,by first|(simp;done)|(simp;omega),rfl,rfl,HT'.out,t0,t1,blw⟩
    case measure=>simp[intOf];omega
  ·obtain rfl:k=2*ls.length:=by omega
   unfold HidW at HT
   rw[hT.out]at HT
   injection HT with e1 e2
   subst e1;subst e2
   have hlt2:¬(((2*ls.length:Nat):Int)<2*ls.length):=by omega
   generalize hN:ls.length=n at *
   clear hT hr
   go_wp2_with fail
   skip
   repeat' (first|go_values|go_skip|go_guarded|go_step|go_upon|(simp only[];go_simp))
   go_ret2
   exact⟨rfl,blw⟩
end Go.Proofs.YtjbfaaolfonmaaaGreat
namespace Go.Proofs.YtjbfaaolfonmaaaGreat
open Go Go.Sort Go.RowKit
theorem OwnBox.alloc {ls:List Box}{N g:Nat}{w:World} (h:OwnBox ls N g w) (o:Obj):OwnBox ls N g (w.alloc o):=h.bel ((Below.refl _ _).alloc (Nat.le_refl _) o)
theorem ownw {ls:List Box}{N g:Nat}{w:World} (h:OwnBox ls N g w:=by repeat' (first|(with_reducible assumption)|(with_reducible refine OwnBox.drew ?_)|(with_reducible refine OwnBox.far ?_ ?_)|(with_reducible refine OwnBox.alloc ?_ _)|omega|(simp;done)|(simp;omega))):OwnBox ls N g w:=h
theorem has_any (pa:Option Addr) (n cap:Nat) (d:Int) (t:Bool) (hn:n≤1000) (ht:inR d 0 (2*n-1)=t) (w:World) :
  Calls Tryz.prog 90 #[.slice pa n cap,.int .i64 d] w fun e w'=>e = .returned (.bool t)∧w'=w:=by
 have C:=Lib.hid (fun w=>fwithin_is d 0 (2*n-1) t w ht)
 have W1:IntKind.i64.wrap (2*(n:Int))=2*n:=IntWalk.i64_in _ ⟨by omega,by omega⟩
 have W2:wrap64 (2*(n:Int))=2*n:=IntWalk.wrap64_in _ ⟨by omega,by omega⟩
 have W3:wrap64 (2*(n:Int)-1)=2*n-1:=IntWalk.wrap64_in _ ⟨by omega,by omega⟩
 clear ht
 go_enter Tryz.func90,Tryz.ntmps90
 go_wp2_with fail
 refine(C.out _).mono ?_
 rintro e w' ⟨rfl,rfl⟩
 repeat' (first|go_values|go_skip|go_guarded|go_step|go_upon|(simp only[];go_simp))
 go_ret
 exact⟨rfl,rfl⟩
set_option maxHeartbeats 1000000 in
theorem CutOf_err (pa:Option Addr) (ls:List Box) (cap:Nat) (d:Int) (q:Int) (hq:checkQ ls=q) (h:q≠0) (w:World) (hr:Row pa ls w) :
  Calls Tryz.prog 23 #[.slice pa ls.length cap,.int .i64 d] w fun E w'=>E = .returned (.tuple #[.agg #[.slice none 0 0,.slice none 0 0],.int .i64 q])∧Below w.heap.size w w':=by
 have FE:=fun w' (h:Below w.heap.size w w')=>ferr_any pa ls cap w' (hr.bel h)
 rw[hq]at FE
 have FE:=Lib.hid FE
 have hq1:(q != 0)=true:=by simpa using h
 clear hr hq h
 go_enter Tryz.func23,Tryz.ntmps23
 go_wp2_with fail
 refine(FE.out _ blw).mono ?_
 rintro e w1 ⟨rfl,A0⟩
 have A2:=A0.size
 (try simp at A2)
 have A4:=bl5 A0 (w.heap.size)
 repeat' (first|go_values|go_skip|go_guarded|go_step|go_upon|(simp only[];go_simp))
 (with_reducible show bodyPost _ _ _ _ _ _);refine bodyPost_ret (by simp[results,Tryz.results23,go_sem, *];first|done|rfl) rfl ?_
 exact⟨rfl,blw⟩
set_option maxHeartbeats 1000000 in
theorem CutOf_missing (pa:Option Addr) (ls:List Box) (cap:Nat) (d:Int) (hq:checkQ ls=0) (h:inR d 0 (2*ls.length-1)=false) (hn:ls.length≤1000) (w:World) (hr:Row pa ls w) :
  Calls Tryz.prog 23 #[.slice pa ls.length cap,.int .i64 d] w fun E w'=>E = .returned (.tuple #[.agg #[.slice none 0 0,.slice none 0 0],.int .i64 6])∧Below w.heap.size w w':=by
 have FE:=fun w' (h:Below w.heap.size w w')=>ferr_any pa ls cap w' (hr.bel h)
 rw[hq]at FE
 have FE:=Lib.hid FE
 have HA:=Lib.hid (fun w=>has_any pa ls.length cap d false hn h w)
 clear hr hq h
 go_enter Tryz.func23,Tryz.ntmps23
 go_wp2_with fail
 refine(FE.out _ blw).mono ?_
 rintro e w1 ⟨rfl,A0⟩
 have A2:=A0.size
 (try simp at A2)
 have A4:=bl5 A0 (w.heap.size)
 go_wp2_with fail
 refine(HA.out _).mono ?_
 rintro e w' ⟨rfl,rfl⟩
 repeat' (first|go_values|go_skip|go_guarded|go_step|go_upon|(simp only[];go_simp))
 (with_reducible show bodyPost _ _ _ _ _ _);refine bodyPost_ret (by simp[results,Tryz.results23,go_sem, *];first|done|rfl) rfl ?_
 exact⟨rfl,blw⟩
set_option maxHeartbeats 2000000 in
theorem CutOf_break (a:Addr) (ls:List Box) (cap d:Nat) (b:Box) (hb:ls[d/2]?=some b) (hq:checkQ ls=0) (h:¬b.dlo d<b.dhi d) (hn:ls.length≤1000) (w:World) (hr:Row (some a) ls w) :
  Calls Tryz.prog 23 #[.slice (some a) ls.length cap,.int .i64 d] w fun E w'=>E = .returned (.tuple #[.agg #[.slice none 0 0,.slice none 0 0],.int .i64 24])∧Below w.heap.size w w':=by
 have FE:=fun w' (h:Below w.heap.size w w')=>ferr_any (some a) ls cap w' (hr.bel h)
 have hk:=(checkQ_zero hq).1 b (List.mem_of_getElem? hb)
 have hd:d/2<ls.length:=(List.getElem?_eq_some_iff.1 hb).1
 have HA:=Lib.hid (fun w=>has_any (some a) ls.length cap d true hn (inR_yes.2 ⟨by omega,by omega⟩) w)
 have CW:=fun w' (k:Below w.heap.size w w')=>cut_walk a ls cap d b hb hk hn w' (hr.bel k)
 rw[hq]at FE
 rw[decide_eq_false h]at CW
 have FE:=Lib.hid FE
 have CW:=Lib.hid CW
 clear hr hq h hb hk hd
 generalize ls.length=n at *
 go_enter Tryz.func23,Tryz.ntmps23
 go_wp2_with fail
 refine(FE.out _ blw).mono ?_
 rintro e w1 ⟨rfl,A0⟩
 have A2:=A0.size
 (try simp at A2)
 have A4:=bl5 A0 (w.heap.size)
 go_wp2_with fail
 refine(HA.out _).mono ?_
 rintro e w' ⟨rfl,rfl⟩
 go_wp2_with fail
 refine(CW.out _ blw).mono ?_
 rintro E w2 ⟨g0,c0,g1,c1,rfl,P0,P1,A1⟩
 clear P0 P1
 have A3:=A1.size
 (try simp at A3)
 have Ab:=bl5 A1 (w.heap.size)
 repeat' (first|go_values|go_skip|go_guarded|go_step|go_upon|(simp only[];go_simp))
 (with_reducible show bodyPost _ _ _ _ _ _);refine bodyPost_ret (by simp[results,Tryz.results23,go_sem, *];first|done|rfl) rfl ?_
 exact⟨rfl,blw⟩
set_option maxHeartbeats 2000000 in
theorem CutOf_ok (a:Addr) (ls:List Box) (cap d:Nat) (b:Box) (hb:ls[d/2]?=some b) (hq:checkQ ls=0) (h:b.dlo d<b.dhi d) (hn:ls.length≤1000) (w:World) (hr:Row (some a) ls w) :
  Calls Tryz.prog 23 #[.slice (some a) ls.length cap,.int .i64 d] w fun E w'=>Cut (lowHalf ls d) (highHalf ls d) ls.length w E w' (.int .i64 0):=by
 have FE:=fun w' (h:Below w.heap.size w w')=>ferr_any (some a) ls cap w' (hr.bel h)
 have hk:=(checkQ_zero hq).1 b (List.mem_of_getElem? hb)
 have hd:d/2<ls.length:=(List.getElem?_eq_some_iff.1 hb).1
 have HA:=Lib.hid (fun w=>has_any (some a) ls.length cap d true hn (inR_yes.2 ⟨by omega,by omega⟩) w)
 have CW:=fun w' (k:Below w.heap.size w w')=>cut_walk a ls cap d b hb hk hn w' (hr.bel k)
 rw[hq]at FE
 rw[decide_eq_true h]at CW
 have FE:=Lib.hid FE
 have CW:=Lib.hid CW
 clear hr hq h hb hk hd
 generalize ls.length=n at *
 go_enter Tryz.func23,Tryz.ntmps23
 go_wp2_with fail
 refine(FE.out _ blw).mono ?_
 rintro e w1 ⟨rfl,A0⟩
 have A2:=A0.size
 (try simp at A2)
 have A4:=bl5 A0 (w.heap.size)
 go_wp2_with fail
 refine(HA.out _).mono ?_
 rintro e w' ⟨rfl,rfl⟩
 go_wp2_with fail
 refine(CW.out _ blw).mono ?_
 rintro E w2 ⟨g0,c0,g1,c1,rfl,P0,P1,A1⟩
 have A3:=A1.size
 (try simp at A3)
 have Ab:=bl5 A1 (w.heap.size)
 have e0:=P0.lo
 have e1:=P1.lo
 (try simp at e0 e1)
 have P0:=P0.low (M:=w.heap.size) (by first|(simp;done)|(simp;omega)|omega)
 have P1:=P1.low (M:=w.heap.size) (by first|(simp;done)|(simp;omega)|omega)
 have f0:=P0.hi
 have f1:=P1.hi
 have P0:=Lib.hid P0
 have P1:=Lib.hid P1
 repeat' (first|go_values|go_skip|go_guarded|go_step|go_upon|(simp only[];go_simp))
 (with_reducible show bodyPost _ _ _ _ _ _);refine bodyPost_ret (by simp[results,Tryz.results23,go_sem, *];first|done|rfl) rfl ?_
 have P0:=P0.out;have P1:=P1.out;exact⟨g0,c0,g1,c1,rfl,(by repeat' (first|(with_reducible assumption)|(with_reducible refine OwnBox.drew ?_)|(with_reducible refine OwnBox.far ?_ ?_)|(with_reducible refine OwnBox.alloc ?_ _)|omega|(simp;done)|(simp;omega))),(by repeat' (first|(with_reducible assumption)|(with_reducible refine OwnBox.drew ?_)|(with_reducible refine OwnBox.far ?_ ?_)|(with_reducible refine OwnBox.alloc ?_ _)|omega|(simp;done)|(simp;omega))),blw⟩
set_option maxHeartbeats 1000000 in
theorem Widest_err (pa:Option Addr) (ls:List Box) (cap:Nat) (q:Int) (hq:checkQ ls=q) (h:q≠0) (w:World) (hr:Row pa ls w) :
  Calls Tryz.prog 34 #[.slice pa ls.length cap] w fun E w'=>E = .returned (.tuple #[.int .i64 0,.int .i64 q])∧Below w.heap.size w w':=by
 have FE:=fun w' (h:Below w.heap.size w w')=>ferr_any pa ls cap w' (hr.bel h)
 rw[hq]at FE
 have FE:=Lib.hid FE
 have hq1:(q != 0)=true:=by simpa using h
 clear hr hq h
 go_enter Tryz.func34,Tryz.ntmps34
 go_wp2_with fail
 refine(FE.out _ blw).mono ?_
 rintro e w1 ⟨rfl,A0⟩
 have A2:=A0.size
 (try simp at A2)
 repeat' (first|go_values|go_skip|go_guarded|go_step|go_upon|(simp only[];go_simp))
 go_ret2
 exact⟨rfl,blw⟩
@[irreducible] def wideD (ls:List Box):Int:=if (widB ls (2*ls.length)).2=0 then 0 else(widB ls (2*ls.length)).1
@[irreducible] def wideQ (ls:List Box):Int:=if (widB ls (2*ls.length)).2=0 then 17 else 0
set_option maxHeartbeats 1000000 in
theorem Widest_ok (a:Addr) (ls:List Box) (cap:Nat) (hq:checkQ ls=0) (hn:ls.length≤1000) (w:World) (hr:Row (some a) ls w) :
  Calls Tryz.prog 34 #[.slice (some a) ls.length cap] w fun E w'=>E = .returned (.tuple #[.int .i64 (wideD ls),.int .i64 (wideQ ls)])∧Below w.heap.size w w':=by
 have FE:=fun w' (h:Below w.heap.size w w')=>ferr_any (some a) ls cap w' (hr.bel h)
 have WI:=fun w' (h:Below w.heap.size w w')=>widest_any a ls cap (checkQ_zero hq).1 hn w' (hr.bel h)
 have nn:=widB_nonneg ls (2*ls.length)
 rw[hq]at FE
 have FE:=Lib.hid FE
 unfold wideD wideQ
 generalize widB ls (2*ls.length)=T at *
 obtain⟨T0,T1⟩:=T
 simp only at WI nn ⊢
 clear hr hq
 by_cases hz:T1=0
 ·rw[if_pos hz,if_pos hz]
  rw[decide_eq_false (by omega:¬0<T1)]at WI
  have WI:=Lib.hid WI
  go_enter Tryz.func34,Tryz.ntmps34
  go_wp2_with fail
  refine(FE.out _ blw).mono ?_
  rintro e w1 ⟨rfl,A0⟩
  have A2:=A0.size
  (try simp at A2)
  go_wp2_with fail
  refine(WI.out _ blw).mono ?_
  rintro e w2 ⟨rfl,A1⟩
  have A3:=A1.size
  (try simp at A3)
  repeat' (first|go_values|go_skip|go_guarded|go_step|go_upon|(simp only[];go_simp))
  go_ret2
  exact⟨rfl,blw⟩
 ·rw[if_neg hz,if_neg hz]
  rw[decide_eq_true (by omega:0<T1)]at WI
  have WI:=Lib.hid WI
  go_enter Tryz.func34,Tryz.ntmps34
  go_wp2_with fail
  refine(FE.out _ blw).mono ?_
  rintro e w1 ⟨rfl,A0⟩
  have A2:=A0.size
  (try simp at A2)
  go_wp2_with fail
  refine(WI.out _ blw).mono ?_
  rintro e w2 ⟨rfl,A1⟩
  have A3:=A1.size
  (try simp at A3)
  repeat' (first|go_values|go_skip|go_guarded|go_step|go_upon|(simp only[];go_simp))
  go_ret2
  exact⟨rfl,blw⟩
end Go.Proofs.YtjbfaaolfonmaaaGreat
namespace Go.Proofs.YtjbfaaolfonmaaaGreat
open Go Go.Sort Go.RowKit
theorem tdiv2 (d:Nat):((d:Int)).tdiv 2=((d/2:Nat):Int):=by rw[Int.tdiv_eq_ediv_of_nonneg (by omega)];omega
theorem tmod2_even {d:Nat} (h:d%2=0):((d:Int)).tmod 2=0:=by rw[Int.tmod_eq_emod_of_nonneg (by omega)];omega
theorem tmod2_odd {d:Nat} (h:¬d%2=0):((d:Int)).tmod 2=1:=by rw[Int.tmod_eq_emod_of_nonneg (by omega)];omega
set_option maxHeartbeats 400000 in
theorem rangeOf_any (a:Addr) (ls:List Box) (cap d:Nat) (b:Box) (hb:ls[d/2]?=some b) (hn:ls.length≤1000) (w:World) (hr:Row (some a) ls w) :
  Calls Tryz.prog 97 #[.slice (some a) ls.length cap,.int .i64 d] w fun E w'=>E = .returned (.agg #[.int .i64 (b.dlo d),.int .i64 (b.dhi d)])∧Below w.heap.size w w':=by
 have hd:d/2<ls.length:=(List.getElem?_eq_some_iff.1 hb).1
 obtain⟨r0,r1⟩:=hr.range hb
 have hlt:=World.block_lt_of_cell? w _ r0
 have na:¬(a.add (cellAt d)).block=w.heap.size:=by omega
 have t1:=tdiv2 d
 have t3:((d/2:Nat):Int)<ls.length:=by omega
 have t4:wrap64 ((d/2:Nat):Int)=((d/2:Nat):Int):=IntWalk.wrap64_in _ ⟨by omega,by omega⟩
 generalize b.dlo d=lo at *
 generalize b.dhi d=hi at *
 generalize ls.length=n at *
 by_cases h:d%2=0
 ·rw[cellAt_even h]at r0 r1 na hlt
  have t2:=tmod2_even h
  generalize d/2=j at *
  clear h hb hr
  go_enter Tryz.func97,Tryz.ntmps97
  repeat' (first|go_values|go_skip|go_guarded|go_step|go_upon|(simp only[];go_simp))
  (with_reducible show bodyPost _ _ _ _ _ _);refine bodyPost_ret (by simp[results,Tryz.results97,go_sem, *];first|done|rfl) rfl ?_
  exact⟨rfl,blw⟩
 ·rw[cellAt_odd h,← add_more]at r0 r1 na hlt
  have t2:=tmod2_odd h
  generalize d/2=j at *
  have q0:w.cell? ⟨(a.add (j*5)).block,(a.add (j*5)).off+2,none⟩=some (.int .i64 lo):=r0
  have q1:w.cell? ⟨(a.add (j*5)).block,(a.add (j*5)).off+2+1,none⟩=some (.int .i64 hi):=r1
  have hl:(a.add (j*5)).block<w.heap.size:=by rw[block_add]at hlt ⊢;rw[block_add]at hlt;exact hlt
  have nb:¬(a.add (j*5)).block=w.heap.size:=by omega
  clear h hb hr r0 r1 na hlt
  go_enter Tryz.func97,Tryz.ntmps97
  repeat' (first|go_values|go_skip|go_guarded|go_step|go_upon|(simp only[];go_simp))
  (with_reducible show bodyPost _ _ _ _ _ _);refine bodyPost_ret (by simp[results,Tryz.results97,go_sem, *];first|done|rfl) rfl ?_
  exact⟨rfl,blw⟩
@[reducible] def Box.put (b:Box) (d:Nat) (lo hi:Int):Box:=(b.putLo d lo).putHi d hi
theorem put_low (b:Box) (d:Nat) (hi:Int):b.put d (b.dlo d) hi=b.putHi d hi:=by
 unfold Box.put Box.putLo Box.putHi Box.dlo
 by_cases h:d%2=0
 ·simp only[if_pos h]
 ·simp only[if_neg h]
theorem put_high (b:Box) (d:Nat) (lo:Int):b.put d lo (b.dhi d)=b.putLo d lo:=by
 unfold Box.put Box.putLo Box.putHi Box.dhi
 by_cases h:d%2=0
 ·simp only[if_pos h]
 ·simp only[if_neg h]
theorem putLo_dhi (b:Box) (d:Nat) (m:Int):(b.putLo d m).dhi d=b.dhi d:=by
 unfold Box.putLo Box.dhi
 by_cases h:d%2=0
 ·simp only[if_pos h]
 ·simp only[if_neg h]
def With (ls:List Box) (n:Nat) (w:World) (E:Ending) (w':World):Prop:=∃g c,E = .returned (.slice (some ⟨g,0,none⟩) n c)∧OwnBox ls w.heap.size g w'∧Below w.heap.size w w'
set_option maxHeartbeats 600000 in
theorem with_any (a:Addr) (ls:List Box) (cap d:Nat) (b:Box) (hb:ls[d/2]?=some b) (hn:ls.length≤1000) (lo hi:Int) (w:World) (hr:Row (some a) ls w) :
  Calls Tryz.prog 98 #[.slice (some a) ls.length cap,.int .i64 d,.agg #[.int .i64 lo,.int .i64 hi]] w fun E w'=>With (ls.set (d/2) (b.put d lo hi)) ls.length w E w':=by
 have hd:d/2<ls.length:=(List.getElem?_eq_some_iff.1 hb).1
 have CP:=Lib.hid (fun w hr=>copy_any a ls cap w hr hn)
 have HR:=Lib.hid hr
 have HB:=Lib.hid hb
 have t1:=tdiv2 d
 have t3:((d/2:Nat):Int)<ls.length:=by omega
 have t4:wrap64 ((d/2:Nat):Int)=((d/2:Nat):Int):=IntWalk.wrap64_in _ ⟨by omega,by omega⟩
 clear hr hb
 generalize hN:ls.length=n at *
 go_enter Tryz.func98,Tryz.ntmps98
 go_wp2_with fail
 refine(CP.out _ (HR.out.bel blw)).mono ?_
 rintro E w1 ⟨g,c,rfl,ho,A0⟩
 have A2:=A0.size
 (try simp at A2)
 have A4:=bl5 A0 (w.heap.size)
 have hg:=ho.hi
 have hl:=ho.lo
 (try simp at hl)
 have ho:=ho.low (M:=w.heap.size) (by first|(simp;done)|(simp;omega)|omega)
 obtain⟨k0,k1⟩:=ho.range HB.out
 have fr:=ho.free
 have d0:¬g=w.heap.size:=by omega
 have d1:¬w.heap.size=g:=by omega
 have P0:=(ho.putLo HB.out lo).putHi (d:=d) (b:=b.putLo d lo) (List.getElem?_set_self (by rw[hN];exact hd)) hi
 rw[List.set_set]at P0
 have P0:=Lib.hid P0
 have lg:w.heap.size≤g:=ho.lo
 clear ho
 generalize b.dlo d=x at *
 generalize b.dhi d=y at *
 have ad:∀k:Nat,(⟨g,0,none⟩:Addr).add k=⟨g,k,none⟩:=own_at g
 by_cases h:d%2=0
 ·rw[cellAt_even h]at k0 k1 P0
  have t2:=tmod2_even h
  generalize hj:d/2=j at k0 k1 P0 t1 t3 t4
  replace hd:j<n:=Int.ofNat_lt.1 t3
  replace hj:=Lib.hid hj
  clear h
  repeat' (first|go_values|go_skip|go_guarded|go_step|go_upon|(simp only[];go_simp))
  go_ret
  have P0:=P0.out;rw[hj.out];exact⟨g,c,rfl,ownw,blw⟩
 ·rw[cellAt_odd h]at k0 k1 P0
  have t2:=tmod2_odd h
  generalize hj:d/2=j at k0 k1 P0 t1 t3 t4
  replace hd:j<n:=Int.ofNat_lt.1 t3
  replace hj:=Lib.hid hj
  clear h
  repeat' (first|go_values|go_skip|go_guarded|go_step|go_upon|(simp only[];go_simp))
  go_ret
  have P0:=P0.out;rw[hj.out];exact⟨g,c,rfl,ownw,blw⟩
set_option maxHeartbeats 400000 in
theorem rCutOf_missing (pa:Option Addr) (ls:List Box) (cap:Nat) (d:Int) (h:inR d 0 (2*ls.length-1)=false) (hn:ls.length≤1000) (w:World) :
  Calls Tryz.prog 36 #[.slice pa ls.length cap,.int .i64 d] w fun E w'=>E = .returned (.tuple #[.agg #[.slice none 0 0,.slice none 0 0],.int .i64 6])∧Below w.heap.size w w':=by
 have HA:=Lib.hid (fun w=>r7within_is d 0 (2*ls.length-1) false w h)
 have W1:IntKind.i64.wrap (2*(ls.length:Int))=2*ls.length:=IntWalk.i64_in _ ⟨by omega,by omega⟩
 have W2:wrap64 (2*(ls.length:Int))=2*ls.length:=IntWalk.wrap64_in _ ⟨by omega,by omega⟩
 have W3:wrap64 (2*(ls.length:Int)-1)=2*ls.length-1:=IntWalk.wrap64_in _ ⟨by omega,by omega⟩
 clear h
 go_enter Tryz.func36,Tryz.ntmps36
 go_wp2_with fail
 refine(HA.out _).mono ?_
 rintro e w' ⟨rfl,rfl⟩
 repeat' (first|go_values|go_skip|go_guarded|go_step|go_upon|(simp only[];go_simp))
 (with_reducible show bodyPost _ _ _ _ _ _);refine bodyPost_ret (by simp[results,Tryz.results36,go_sem, *];first|done|rfl) rfl ?_
 exact⟨rfl,blw⟩
set_option maxHeartbeats 800000 in
theorem rCutOf_break (a:Addr) (ls:List Box) (cap d:Nat) (b:Box) (hb:ls[d/2]?=some b) (h:b.dlo d=b.dhi d) (hn:ls.length≤1000) (w:World) (hr:Row (some a) ls w) :
  Calls Tryz.prog 36 #[.slice (some a) ls.length cap,.int .i64 d] w fun E w'=>E = .returned (.tuple #[.agg #[.slice none 0 0,.slice none 0 0],.int .i64 24])∧Below w.heap.size w w':=by
 have hd:d/2<ls.length:=(List.getElem?_eq_some_iff.1 hb).1
 have HA:=Lib.hid (fun w=>r7within_is d 0 (2*ls.length-1) true w (inR_yes.2 ⟨by omega,by omega⟩))
 have RO:=fun w' (k:Below w.heap.size w w')=>rangeOf_any a ls cap d b hb hn w' (hr.bel k)
 rw[h]at RO
 have RO:=Lib.hid RO
 have W1:IntKind.i64.wrap (2*(ls.length:Int))=2*ls.length:=IntWalk.i64_in _ ⟨by omega,by omega⟩
 have W2:wrap64 (2*(ls.length:Int))=2*ls.length:=IntWalk.wrap64_in _ ⟨by omega,by omega⟩
 have W3:wrap64 (2*(ls.length:Int)-1)=2*ls.length-1:=IntWalk.wrap64_in _ ⟨by omega,by omega⟩
 clear h hb hd hr
 generalize ls.length=n at *
 go_enter Tryz.func36,Tryz.ntmps36
 go_wp2_with fail
 refine(HA.out _).mono ?_
 rintro e w' ⟨rfl,rfl⟩
 go_wp2_with fail
 refine(RO.out _ blw).mono ?_
 rintro e w1 ⟨rfl,A0⟩
 have A2:=A0.size
 (try simp at A2)
 have A4:=bl5 A0 (w.heap.size)
 repeat' (first|go_values|go_skip|go_guarded|go_step|go_upon|(simp only[];go_simp))
 (with_reducible show bodyPost _ _ _ _ _ _);refine bodyPost_ret (by simp[results,Tryz.results36,go_sem, *];first|done|rfl) rfl ?_
 exact⟨rfl,blw⟩
set_option maxHeartbeats 2000000 in
theorem rCutOf_ok (a:Addr) (ls:List Box) (cap d:Nat) (b:Box) (hb:ls[d/2]?=some b) (hk:BoxOk b) (h:b.dlo d<b.dhi d) (hn:ls.length≤1000) (w:World) (hr:Row (some a) ls w) :
  Calls Tryz.prog 36 #[.slice (some a) ls.length cap,.int .i64 d] w fun E w'=>Cut (lowHalf ls d) (highHalf ls d) ls.length w E w' (.int .i64 0):=by
 have hd:d/2<ls.length:=(List.getElem?_eq_some_iff.1 hb).1
 have HA:=Lib.hid (fun w=>r7within_is d 0 (2*ls.length-1) true w (inR_yes.2 ⟨by omega,by omega⟩))
 have RO:=Lib.hid (fun w' (k:Below w.heap.size w w')=>rangeOf_any a ls cap d b hb hn w' (hr.bel k))
 have W0:=fun lo hi w' (k:Below w.heap.size w w')=>with_any a ls cap d b hb hn lo hi w' (hr.bel k)
 have bd:=dlo_bd hk d
 have WL:=W0 (b.dlo d) ((b.dlo d+b.dhi d)/2)
 have WH:=W0 ((b.dlo d+b.dhi d)/2+1) (b.dhi d)
 rw[put_low,← lowHalf_is hb]at WL
 rw[put_high,← highHalf_is hb]at WH
 clear W0
 have FL:=Lib.hid (fun w=>bFloor_any (b.dlo d+b.dhi d) 2 w (by omega) (by omega) (by omega) (by omega))
 generalize b.dlo d=lo at *
 generalize b.dhi d=hi at *
 have mb:0≤(lo+hi)/2∧(lo+hi)/2≤1000000:=by omega
 generalize (lo+hi)/2=m at *
 have WL:=Lib.hid WL
 have WH:=Lib.hid WH
 have V1:IntKind.i64.wrap (2*(ls.length:Int))=2*ls.length:=IntWalk.i64_in _ ⟨by omega,by omega⟩
 have V2:wrap64 (2*(ls.length:Int))=2*ls.length:=IntWalk.wrap64_in _ ⟨by omega,by omega⟩
 have V3:wrap64 (2*(ls.length:Int)-1)=2*ls.length-1:=IntWalk.wrap64_in _ ⟨by omega,by omega⟩
 have V4:IntKind.i64.wrap (m+1)=m+1:=IntWalk.i64_in _ ⟨by omega,by omega⟩
 have V5:wrap64 (m+1)=m+1:=IntWalk.wrap64_in _ ⟨by omega,by omega⟩
 have ne:(lo==hi)=false:=by simp;omega
 clear hb hd hr hk
 generalize ls.length=n at *
 go_enter Tryz.func36,Tryz.ntmps36
 go_wp2_with fail
 refine(HA.out _).mono ?_
 rintro e w' ⟨rfl,rfl⟩
 go_wp2_with fail
 refine(RO.out _ blw).mono ?_
 rintro e w1 ⟨rfl,A0⟩
 have A2:=A0.size
 (try simp at A2)
 have A4:=bl5 A0 (w.heap.size)
 go_wp2_with fail
 refine(FL.out _).mono ?_
 rintro e w' ⟨rfl,rfl⟩
 go_wp2_with fail
 go_region_with (first
  | (go_at_call 98;(with_reducible refine(WL.out _ ?_).mono ?_);(·exact blw);rintro E w2 ⟨g0,c0,rfl,P0,A1⟩;have e0:=P0.lo;have f0:=P0.hi;have A3:=A1.size;(try simp at A3);have Ar:w.heap.size<w2.heap.size:=(by omega);have An:=blc A1 (w.heap.size);have Ap:=blf A1 (w.heap.size);have Aj:w1.heap.size<w2.heap.size:=(by omega);have Af:=blc A1 (w1.heap.size);have Ah:=blf A1 (w1.heap.size))
  | (go_at_call 98;(with_reducible refine(WH.out _ ?_).mono ?_);(·exact blw);rintro E w3 ⟨g1,c1,rfl,P1,A6⟩;have e1:=P1.lo;have f1:=P1.hi;have A8:=A6.size;(try simp at A8);have As:w.heap.size<w3.heap.size:=(by omega);have Ao:=blc A6 (w.heap.size);have Aq:=blf A6 (w.heap.size);have Ak:w1.heap.size<w3.heap.size:=(by omega);have Ag:=blc A6 (w1.heap.size);have Ai:=blf A6 (w1.heap.size)))
 all_goals
  repeat' (first|go_values|go_skip|go_guarded|go_step|go_upon|(simp only[];go_simp))
  (with_reducible show bodyPost _ _ _ _ _ _);refine bodyPost_ret (by simp[results,Tryz.results36,go_sem, *];first|done|rfl) rfl ?_
  (try simp at e0 e1)
  have P0:=(P0.bel (show Below w2.heap.size w2 w3 from blw)).low (M:=w.heap.size) (by first|omega|(simp;omega))
  have P1:=P1.low (M:=w.heap.size) (by first|omega|(simp;omega))
  exact⟨g0,c0,g1,c1,rfl,ownw,ownw,blw⟩
set_option maxHeartbeats 4000000 in
theorem rWidest_any (a:Addr) (ls:List Box) (cap:Nat) (hk:∀b∈ls,BoxOk b) (hn:ls.length≤1000) (w:World) (hr:Row (some a) ls w) :
  Calls Tryz.prog 35 #[.slice (some a) ls.length cap] w fun E w'=>E = .returned (.tuple #[.int .i64 (wideD ls),.int .i64 (wideQ ls)])∧Below w.heap.size w w':=by
 have nn:=widB_nonneg ls (2*ls.length)
 unfold wideD wideQ
 obtain⟨T,hT⟩:∃T,widB ls (2*ls.length)=T:=⟨_,rfl⟩
 rw[hT]at nn ⊢
 obtain⟨R0,R1⟩:=T
 simp only at nn ⊢
 have hT:=Lib.hid hT
 have W0:IntKind.i64.wrap (2*(ls.length:Int))=2*ls.length:=IntWalk.i64_in _ ⟨by omega,by omega⟩
 have W1:wrap64 (2*(ls.length:Int))=2*ls.length:=IntWalk.wrap64_in _ ⟨by omega,by omega⟩
 obtain⟨D,hD⟩:∃D,(if R1=0 then 0 else R0)=D:=⟨_,rfl⟩
 obtain⟨Q,hQ⟩:∃Q:Int,(if R1=0 then 17 else 0)=Q:=⟨_,rfl⟩
 rw[hD,hQ]
 have hD:=Lib.hid hD
 have hQ:=Lib.hid hQ
 go_enter Tryz.func35,Tryz.ntmps35
 go_wp2_with fail
 go_loopw [4,5,6] (fun u v i wr=>∃(k:Nat) (T0 T1:Int),k≤2*ls.length∧i = .int .i64 k∧u = .int .i64 T0∧v = .int .i64 T1∧HidW ls (T0,T1) k∧0≤T1∧T1≤1000000∧Below w.heap.size w wr) (fun _ _ i _=>2*ls.length-(intOf i).toNat)
 case atStart=>exact⟨0,0,0,by omega,rfl,rfl,rfl,rfl,by decide,by decide,blw⟩
 case round =>
  obtain⟨k,T0,T1,hkn,rfl,rfl,rfl,HT,t0,t1,A7⟩:=hrel
  by_cases hlt:k<2*ls.length
  ·obtain⟨b,hb⟩:∃b,ls[k/2]?=some b:=⟨_,List.getElem?_eq_getElem (by omega)⟩
   have RO:=Lib.hid (rangeOf_any a ls cap k b hb hn wr (hr.bel A7))
   have bd:=dlo_bd (hk b (List.mem_of_getElem? hb)) k
   have hlt2:(k:Int)<2*ls.length:=by omega
   have H2:(widB ls k).2=T1:=by unfold HidW at HT;rw[HT]
   by_cases hw:T1<b.dhi k-b.dlo k
   ·have HT':HidW ls ((k:Int),b.dhi k-b.dlo k) (k+1):=by
     unfold HidW
     rw[widB_up (by rw[widB_lt hb,H2];exact hw),dHi_is hb,dLo_is hb]
    have HT':=Lib.hid HT'
    generalize b.dlo k=lo at *
    generalize b.dhi k=hi at *
    have W2:IntKind.i64.wrap (hi-lo)=hi-lo:=IntWalk.i64_in _ ⟨by omega,by omega⟩
    have W3:wrap64 (hi-lo)=hi-lo:=IntWalk.wrap64_in _ ⟨by omega,by omega⟩
    generalize hN:ls.length=n at *
    clear HT H2 hb hr nn
    go_wp2_with fail
    refine(RO.out).mono ?_
    rintro e w21 ⟨rfl,A9⟩
    have Aa:=A9.size
    (try simp at Aa)
    go_wp2_with fail
    go_region_held3 (fun w'=>w'.cell? ⟨w21.heap.size,0,none⟩=some (.int .i64 lo)∧w'.cell? ⟨w21.heap.size,1,none⟩=some (.int .i64 hi)) (simp[*,go_sem]) (fail)
    go_wp2_with fail
    go_roundw
    case rel=>exact⟨k+1,(k:Int),hi-lo,by omega,by first|(simp;done)|(simp;omega),rfl,rfl,HT'.out,by omega,by omega,blw⟩
    case measure=>simp[intOf];omega
   ·have HT':HidW ls (T0,T1) (k+1):=by
     unfold HidW at HT ⊢
     rw[widB_no (by rw[widB_lt hb,H2];exact hw),HT]
    have HT':=Lib.hid HT'
    generalize b.dlo k=lo at *
    generalize b.dhi k=hi at *
    have W2:IntKind.i64.wrap (hi-lo)=hi-lo:=IntWalk.i64_in _ ⟨by omega,by omega⟩
    have W3:wrap64 (hi-lo)=hi-lo:=IntWalk.wrap64_in _ ⟨by omega,by omega⟩
    generalize hN:ls.length=n at *
    clear HT H2 hb hr nn
    go_wp2_with fail
    refine(RO.out).mono ?_
    rintro e w21 ⟨rfl,A9⟩
    have Aa:=A9.size
    (try simp at Aa)
    go_wp2_with fail
    go_roundw
    case rel=>exact⟨k+1,T0,T1,by omega,by first|(simp;done)|(simp;omega),rfl,rfl,HT'.out,t0,t1,blw⟩
    case measure=>simp[intOf];omega
  ·obtain rfl:k=2*ls.length:=by omega
   unfold HidW at HT
   rw[hT.out]at HT
   injection HT with e1 e2
   subst e1;subst e2
   have hlt2:¬(((2*ls.length:Nat):Int)<2*ls.length):=by omega
   generalize hN:ls.length=n at *
   clear hT hr
   by_cases hz:R1=0
   ·have hD:=hD.out
    have hQ:=hQ.out
    rw[if_pos hz]at hD hQ
    subst hD;subst hQ
    have hz1:(R1==0)=true:=by simpa using hz
    clear hz
    repeat' (first|go_values|go_skip|go_guarded|go_step|go_upon|(simp only[];go_simp))
    go_ret2
    exact⟨rfl,blw⟩
   ·have hD:=hD.out
    have hQ:=hQ.out
    rw[if_neg hz]at hD hQ
    subst hD;subst hQ
    have hz1:(R1==0)=false:=by simpa using hz
    clear hz
    repeat' (first|go_values|go_skip|go_guarded|go_step|go_upon|(simp only[];go_simp))
    go_ret2
    exact⟨rfl,blw⟩
end Go.Proofs.YtjbfaaolfonmaaaGreat
namespace Go.Proofs.YtjbfaaolfonmaaaGreat
open Go Go.Sort Go.RowKit
set_option maxHeartbeats 4000000 in
theorem boxes_same (p q:Option Addr) (ls:List Box) (cp cq:Nat) (hn:ls.length≤1000000) (w:World) (h1:Row p ls w) (h2:Row q ls w) :
  Calls Tryz.prog 37 #[.slice p ls.length cp,.slice q ls.length cq] w fun E w'=>E = .returned (.bool true)∧Below w.heap.size w w':=by
 have c0:((ls.length:Int) != ls.length)=false:=by simp
 go_enter Tryz.func37,Tryz.ntmps37
 go_wp2_with fail
 go_loopw [5] (fun i wr=>∃k:Nat,k≤ls.length∧i = .int .i64 k∧Below w.heap.size w wr) (fun i _=>ls.length-(intOf i).toNat)
 case atStart=>exact⟨0,by omega,rfl,blw⟩
 case round =>
  obtain⟨k,hk,rfl,A7⟩:=hrel
  by_cases hlt:k<ls.length
  ·obtain⟨b,hb⟩:∃b,ls[k]?=some b:=⟨_,List.getElem?_eq_getElem hlt⟩
   obtain⟨a,ha,hal,hE⟩:=h1.get k b hb
   obtain⟨a',ha',hal',hE'⟩:=h2.get k b hb
   subst ha;subst ha'
   obtain⟨E1,E2,E3,E4,E5⟩:=boxAt.bel hE A7 hal
   obtain⟨F1,F2,F3,F4,F5⟩:=boxAt.bel hE' A7 hal'
   have hlt2:(k:Int)<ls.length:=by omega
   obtain⟨il,ih,tl,th,lo⟩:=b
   simp only at E1 E2 E3 E4 E5 F1 F2 F3 F4 F5
   clear h1 h2 hb hE hE'
   generalize hN:ls.length=n at *
   go_wp2_with fail
   first|(go_region_held3 (fun w'=>w'.cell? (a.add (k*5))=some (.int .i64 il)∧w'.cell? ⟨(a.add (k*5)).block,(a.add (k*5)).off+1,none⟩=some (.int .i64 ih)∧w'.cell? ⟨(a.add (k*5)).block,(a.add (k*5)).off+2,none⟩=some (.int .i64 tl)∧w'.cell? ⟨(a.add (k*5)).block,(a.add (k*5)).off+3,none⟩=some (.int .i64 th)∧w'.cell? ⟨(a.add (k*5)).block,(a.add (k*5)).off+4,none⟩=some (.int .i64 lo)∧w'.cell? (a'.add (k*5))=some (.int .i64 il)∧w'.cell? ⟨(a'.add (k*5)).block,(a'.add (k*5)).off+1,none⟩=some (.int .i64 ih)∧w'.cell? ⟨(a'.add (k*5)).block,(a'.add (k*5)).off+2,none⟩=some (.int .i64 tl)∧w'.cell? ⟨(a'.add (k*5)).block,(a'.add (k*5)).off+3,none⟩=some (.int .i64 th)∧w'.cell? ⟨(a'.add (k*5)).block,(a'.add (k*5)).off+4,none⟩=some (.int .i64 lo)) (simp[*,go_sem]) (fail))|fail "held"
   go_wp2_with fail
   go_roundw
   case rel=>exact⟨k+1,by omega,by first|(simp;done)|(simp;omega),blw⟩
   case measure=>simp[intOf];omega
  ·obtain rfl:k=ls.length:=by omega
   have hlt2:¬((ls.length:Int)<ls.length):=by omega
   clear h1 h2
   repeat' (first|go_values|go_skip|go_guarded|go_step|go_upon|(simp only[];go_simp))
   go_ret
   exact⟨rfl,blw⟩
end Go.Proofs.YtjbfaaolfonmaaaGreat
