/- Joined: FitLeaf FitCheck FitErr BoxRow BoxCopy Rows2 Energy. -/
import Derived.Test.YtjbfaaolfonmaaaGreatKMed
import Derived.OwnWalk
import Derived.Maps.AppendAt
import Derived.Test.YtjbfaaolfonmaaaGreatKCalm
import Derived.Maps.OwnRows
import Derived.Test.YtjbfaaolfonmaaaGreatKLight
namespace Go.Proofs.YtjbfaaolfonmaaaGreat
open Go Go.Sort Go.RowKit
set_option maxHeartbeats 400000 in
theorem ffloor_any (n b:Int) (w:World) (h1 : -9223372036854775808≤n) (h2:n≤9223372036854775807) (h3:1≤b) (h4:b≤9223372036854775807) :
  Calls Tryz.prog 132 #[.int .i64 n,.int .i64 b] w fun e w'=>e = .returned (.int .i64 (n/b))∧w'=w:=by
 go_enter Tryz.func132,Tryz.ntmps132
 go_wp2
 ·have h:n.tmod b<0:=by assumption
  have hb:=tdiv_bounds n b (by omega)
  have e:=floor_low (by omega) h
  have hw:wrap64 (n.tdiv b-1)=n/b:=by rw[e];exact IntWalk.wrap64_in _ ⟨ediv_lo h3 h1 (by omega),ediv_hi h3 h2 (by omega)⟩
  go_ret
  exact⟨ret_int hw,rfl⟩
 ·have h:0≤n.tmod b:=by assumption
  go_ret
  exact⟨ret_int (floor_high (by omega) h),rfl⟩
@[irreducible] def cdv (n b:Int):Int := -(-n/b)
set_option maxHeartbeats 400000 in
theorem fceil_any (n b:Int) (w:World) (h1 : -9223372036854775807≤n) (h2:n≤9223372036854775807) (h3:1≤b) (h4:b≤9223372036854775807) :
  Calls Tryz.prog 133 #[.int .i64 n,.int .i64 b] w fun e w'=>e = .returned (.int .i64 (cdv n b))∧w'=w:=by
 unfold cdv
 have hb : -9223372036854775807 ≤ -n/b ∧ -n/b≤9223372036854775807:=⟨ediv_lo h3 (by omega) (by omega),ediv_hi h3 (by omega) (by omega)⟩
 go_enter Tryz.func133,Tryz.ntmps133
 go_wp2_with (go_at_call 132;refine(ffloor_any _ _ _ (by omega) (by omega) (by omega) (by omega)).mono ?_;rintro e w' ⟨rfl,rfl⟩)
 go_ret
 exact⟨rfl,rfl⟩
@[irreducible] def clamp (n:Int):Int:=max (-1048576) (min 1048576 n)
theorem clamp_any (n:Int) (w:World):Calls Tryz.prog 174 #[.int .i64 n] w fun e w'=>e = .returned (.int .i64 (clamp n))∧w'=w:=by
 unfold clamp
 go_enter Tryz.func174,Tryz.ntmps174
 go_wp2
 all_goals go_ret
 all_goals exact⟨ret_int (by omega),rfl⟩
@[go_sem high] theorem run_seen0 (a b c d e f:Value) (w:World):(Instr.index 146 (.agg #[a,b,c,d,e,f]) (.int .i64 0)).run Tryz.prog w = .ok (.agg #[a,b]) w:=by kernel_rfl
@[go_sem high] theorem run_seen1 (a b c d e f:Value) (w:World):(Instr.index 146 (.agg #[a,b,c,d,e,f]) (.int .i64 1)).run Tryz.prog w = .ok (.agg #[c,d]) w:=by kernel_rfl
@[go_sem high] theorem run_seen2 (a b c d e f:Value) (w:World):(Instr.index 146 (.agg #[a,b,c,d,e,f]) (.int .i64 2)).run Tryz.prog w = .ok (.agg #[e,f]) w:=by kernel_rfl
@[go_sem high] theorem run_two0 (a b:Value) (w:World):(Instr.index 67 (.agg #[a,b]) (.int .i64 0)).run Tryz.prog w = .ok a w:=by kernel_rfl
@[go_sem high] theorem run_two1 (a b:Value) (w:World):(Instr.index 67 (.agg #[a,b]) (.int .i64 1)).run Tryz.prog w = .ok b w:=by kernel_rfl
set_option maxHeartbeats 4000000 in
theorem seencut_any (a b c d e f:Int) (w:World):Calls Tryz.prog 136 #[.agg #[.int .i64 a,.int .i64 b,.int .i64 c,.int .i64 d,.int .i64 e,.int .i64 f]] w fun E w' =>
  E = .returned (.agg #[.int .i64 (clamp a),.int .i64 (clamp b),.int .i64 (clamp c),.int .i64 (clamp d),.int .i64 (clamp e),.int .i64 (clamp f)])∧Below w.heap.size w w':=by
 have CL:=Lib.hid clamp_any
 have eg:=enters_of Tryz.func174 (by kernel_rfl) rfl
 go_enter Tryz.func136,Tryz.ntmps136
 go_wp2_with fail
 refine wp_loop_rounds 4 ?_
 rw[rounds_succ]
 go_wp2_with fail
 refine calm 11 (by kernel_rfl) (by kernel_rfl) fun hG => ?_
 have Ac:=hG (w.heap.size) lto
 have A1:=hG (w.heap.size+1) lto
 have Ah:=hG (w.heap.size+1+1) lto
 clear hG
 simp only[List.take_succ_cons,List.take_zero,List.drop_succ_cons,List.drop_zero]
 repeat (go_big_quiet_step (first|(with_reducible exact calm_same (fun w=>CL.out _ w))))
 refine wpQuiet_nil ?_
 intro w1 A0
 clear Ac A1 Ah
 have A7:=A0.size
 (try simp at A7)
 have A9:=bl5 A0 (w.heap.size)
 have A2:=bl5 A0 (w.heap.size+1)
 have Aj:=bl5 A0 (w.heap.size+1+1)
 go_wp2_with fail
 rw[rounds_succ]
 replace A9:=cas5 A9 [.int .i64 a,.int .i64 b,.int .i64 c,.int .i64 d,.int .i64 e,.int .i64 f]
 replace A2:=cas5 A2 [.int .i64 0,.int .i64 0,.int .i64 0,.int .i64 0,.int .i64 0,.int .i64 0]
 simp only[CAf,Nat.reduceAdd,and_true]at A9 A2
 go_wp2_with fail
 refine calm 11 (by kernel_rfl) (by kernel_rfl) fun hG => ?_
 have Ac:=hG (w.heap.size) lto
 have A1:=hG (w.heap.size+1) lto
 have Ai:=hG (w1.heap.size) lto
 clear hG
 simp only[List.take_succ_cons,List.take_zero,List.drop_succ_cons,List.drop_zero]
 repeat (go_big_quiet_step (first|(with_reducible exact calm_same (fun w=>CL.out _ w))))
 refine wpQuiet_nil ?_
 intro w2 A6
 clear Ac A1 Ai
 have Ae:=A6.size
 (try simp at Ae)
 have Aa:=bl5 A6 (w.heap.size)
 have A3:=bl5 A6 (w.heap.size+1)
 have Ak:=bl5 A6 (w1.heap.size)
 go_wp2_with fail
 rw[rounds_succ]
 replace Aa:=cas5 Aa [.int .i64 (clamp a),.int .i64 (clamp b),.int .i64 c,.int .i64 d,.int .i64 e,.int .i64 f]
 replace A3:=cas5 A3 [.int .i64 0,.int .i64 0,.int .i64 0,.int .i64 0,.int .i64 0,.int .i64 0]
 simp only[CAf,Nat.reduceAdd,and_true]at Aa A3
 go_wp2_with fail
 refine calm 11 (by kernel_rfl) (by kernel_rfl) fun hG => ?_
 have Ac:=hG (w.heap.size) lto
 have A1:=hG (w.heap.size+1) lto
 have Ad:=hG (w2.heap.size) lto
 clear hG
 simp only[List.take_succ_cons,List.take_zero,List.drop_succ_cons,List.drop_zero]
 repeat (go_big_quiet_step (first|(with_reducible exact calm_same (fun w=>CL.out _ w))))
 refine wpQuiet_nil ?_
 intro w3 A5
 clear Ac A1 Ad
 have Af:=A5.size
 (try simp at Af)
 have Ab:=bl5 A5 (w.heap.size)
 have A4:=bl5 A5 (w.heap.size+1)
 have Ag:=bl5 A5 (w2.heap.size)
 go_wp2_with fail
 rw[rounds_succ]
 replace Ab:=cas5 Ab [.int .i64 (clamp a),.int .i64 (clamp b),.int .i64 (clamp c),.int .i64 (clamp d),.int .i64 e,.int .i64 f]
 replace A4:=cas5 A4 [.int .i64 0,.int .i64 0,.int .i64 0,.int .i64 0,.int .i64 0,.int .i64 0]
 simp only[CAf,Nat.reduceAdd,and_true]at Ab A4
 repeat' (first|go_values|go_skip|go_guarded|go_step|go_upon|(simp only[];go_simp))
 refine bodyPost_ret (by simp[results,Tryz.results136,go_sem, *];first|done|rfl) rfl ?_
 exact⟨rfl,blw⟩
set_option maxHeartbeats 1000000 in
theorem smin_any (g cap:Nat) (a b c d:Int) (w:World) (s0:w.cell? ⟨g,0,none⟩=some (.int .i64 a)) (s1:w.cell? ⟨g,1,none⟩=some (.int .i64 b)) (s2:w.cell? ⟨g,2,none⟩=some (.int .i64 c)) (s3:w.cell? ⟨g,3,none⟩=some (.int .i64 d)) :
  Calls Tryz.prog 134 #[.slice (some ⟨g,0,none⟩) 4 cap] w fun e w'=>e = .returned (.int .i64 (min (min (min a b) c) d))∧w'=w:=by
 go_enter Tryz.func134,Tryz.ntmps134
 go_wp2_with fail
 refine wp_loop_rounds 4 ?_
 rw[rounds_succ]
 all_goals go_wp2_with fail
 all_goals rw[rounds_succ]
 all_goals go_wp2_with fail
 all_goals rw[rounds_succ]
 all_goals go_wp2_with fail
 all_goals rw[rounds_succ]
 repeat' (first|go_values|go_skip|go_guarded|go_step|go_upon|(simp only[];go_simp))
 all_goals
  go_ret
  exact⟨ret_int (by omega),rfl⟩
set_option maxHeartbeats 1000000 in
theorem smax_any (g cap:Nat) (a b c d:Int) (w:World) (s0:w.cell? ⟨g,0,none⟩=some (.int .i64 a)) (s1:w.cell? ⟨g,1,none⟩=some (.int .i64 b)) (s2:w.cell? ⟨g,2,none⟩=some (.int .i64 c)) (s3:w.cell? ⟨g,3,none⟩=some (.int .i64 d)) :
  Calls Tryz.prog 135 #[.slice (some ⟨g,0,none⟩) 4 cap] w fun e w'=>e = .returned (.int .i64 (max (max (max a b) c) d))∧w'=w:=by
 go_enter Tryz.func135,Tryz.ntmps135
 go_wp2_with fail
 refine wp_loop_rounds 4 ?_
 rw[rounds_succ]
 all_goals go_wp2_with fail
 all_goals rw[rounds_succ]
 all_goals go_wp2_with fail
 all_goals rw[rounds_succ]
 all_goals go_wp2_with fail
 all_goals rw[rounds_succ]
 repeat' (first|go_values|go_skip|go_guarded|go_step|go_upon|(simp only[];go_simp))
 all_goals
  go_ret
  exact⟨ret_int (by omega),rfl⟩
theorem own_cells {w:World}{base:Nat}{e:TypeId}{v:Value}{n:Nat}{xs:List Value} (h:w.ownsRow base e 1 v n xs) (hn:0<n) :
  ∃g cap,v = .slice (some ⟨g,0,none⟩) n cap∧base≤g∧g<w.heap.size∧∀j x,xs[j]?=some x→w.cell? ⟨g,j,none⟩=some x:=by
 obtain⟨hx,h2⟩:=h
 rcases h2 with⟨_,h0⟩|⟨g,cap,cur,rfl,hg,hbk,hc,_,hsz,ht⟩
 ·omega
 ·have hl:g<w.heap.size:=by
   rcases Nat.lt_or_ge g w.heap.size with h|h
   ·exact h
   ·rw[Array.getElem?_eq_none h]at hbk;cases hbk
  refine⟨g,cap,rfl,hg,hl,fun j x hj => ?_⟩
  have hjl:j<n:=by
   rcases Nat.lt_or_ge j n with h|h
   ·exact h
   ·rw[List.getElem?_eq_none (by omega)]at hj;cases hj
  have e1:(cur.toList.take (n*1))[j]?=some x:=by rw[ht];exact hj
  rw[List.getElem?_take_of_lt (by omega)]at e1
  simp[World.cell?,hbk]
  simpa using e1
theorem new_fst (W:World) (cs ds:Array Value) (t s:TypeId):NewVar W W.heap.size cs (((W.alloc (.cells cs t)).alloc (.cells ds s)).drew):=(newVar_alloc (Below.refl _ _)).later blw
theorem new_snd (W:World) (cs ds:Array Value) (t s:TypeId):NewVar W (W.heap.size+1) ds (((W.alloc (.cells cs t)).alloc (.cells ds s)).drew):=by
 have h:=newVar_alloc (W:=W) (w:=W.alloc (.cells cs t)) (cs:=ds) (t:=s) blw
 simp at h
 exact h.later blw
structure Rows2 (w0:World) (L H:Value) (n m:Nat) (xs ys:List Value) (w:World):Prop where
 low:w.ownsRow w0.heap.size 3 1 L n xs
 high:w.ownsRow w0.heap.size 3 1 H m ys
 apart:∀b,L.ownBlock=some b→H.ownBlock=some b→False
 below:Below w0.heap.size w0 w
end Go.Proofs.YtjbfaaolfonmaaaGreat
namespace Go.Proofs.YtjbfaaolfonmaaaGreat
open Go Go.Sort Go.RowKit
@[irreducible] def inR (n lo hi:Int):Bool:=decide (lo≤n)&&decide (n≤hi)
theorem inR_yes {n lo hi:Int} : inR n lo hi=true↔lo≤n∧n≤hi:=by unfold inR;simp
theorem inR_no {n lo hi:Int} : inR n lo hi=false↔¬(lo≤n∧n≤hi):=by
 rw[← inR_yes];simp
theorem fwithin_is (n lo hi:Int) (t:Bool) (w:World) (h:inR n lo hi=t):Calls Tryz.prog 119 #[.int .i64 n,.int .i64 lo,.int .i64 hi] w fun e w'=>e = .returned (.bool t)∧w'=w:=by
 subst h
 by_cases h1:lo≤n
 ·by_cases h2:n≤hi
  ·rw[inR_yes.2 ⟨h1,h2⟩]
   go_enter Tryz.func119,Tryz.ntmps119
   go_wp2
   go_ret
   exact⟨rfl,rfl⟩
  ·rw[inR_no.2 (fun h=>h2 h.2)]
   go_enter Tryz.func119,Tryz.ntmps119
   go_wp2
   go_ret
   exact⟨rfl,rfl⟩
 ·rw[inR_no.2 (fun h=>h1 h.1)]
  go_enter Tryz.func119,Tryz.ntmps119
  go_wp2
  go_ret
  exact⟨rfl,rfl⟩
theorem fidx_is (n:Int) (t:Bool) (w:World) (h:inR n 5000 80000=t):Calls Tryz.prog 125 #[.int .i64 n] w fun e w'=>e = .returned (.bool t)∧w'=w:=by
 have C:=Lib.hid (fun w=>fwithin_is n 5000 80000 t w h)
 clear h
 go_enter Tryz.func125,Tryz.ntmps125
 go_wp2_with (go_at_call 119;refine(C.out _).mono ?_;rintro e w' ⟨rfl,rfl⟩)
 go_ret
 exact⟨rfl,rfl⟩
theorem fthick_is (n:Int) (t:Bool) (w:World) (h:inR n 0 1000000=t):Calls Tryz.prog 149 #[.int .i64 n] w fun e w'=>e = .returned (.bool t)∧w'=w:=by
 have C:=Lib.hid (fun w=>fwithin_is n 0 1000000 t w h)
 clear h
 go_enter Tryz.func149,Tryz.ntmps149
 go_wp2_with (go_at_call 119;refine(C.out _).mono ?_;rintro e w' ⟨rfl,rfl⟩)
 go_ret
 exact⟨rfl,rfl⟩
theorem floss_is (n:Int) (t:Bool) (w:World) (h:inR n 0 80000=t):Calls Tryz.prog 126 #[.int .i64 n] w fun e w'=>e = .returned (.bool t)∧w'=w:=by
 have C:=Lib.hid (fun w=>fwithin_is n 0 80000 t w h)
 clear h
 go_enter Tryz.func126,Tryz.ntmps126
 go_wp2_with (go_at_call 119;refine(C.out _).mono ?_;rintro e w' ⟨rfl,rfl⟩)
 go_ret
 exact⟨rfl,rfl⟩
theorem r7within_is (n lo hi:Int) (t:Bool) (w:World) (h:inR n lo hi=t):Calls Tryz.prog 30 #[.int .i64 n,.int .i64 lo,.int .i64 hi] w fun e w'=>e = .returned (.bool t)∧w'=w:=by
 subst h
 by_cases h1:lo≤n
 ·by_cases h2:n≤hi
  ·rw[inR_yes.2 ⟨h1,h2⟩]
   go_enter Tryz.func30,Tryz.ntmps30
   go_wp2
   go_ret
   exact⟨rfl,rfl⟩
  ·rw[inR_no.2 (fun h=>h2 h.2)]
   go_enter Tryz.func30,Tryz.ntmps30
   go_wp2
   go_ret
   exact⟨rfl,rfl⟩
 ·rw[inR_no.2 (fun h=>h1 h.1)]
  go_enter Tryz.func30,Tryz.ntmps30
  go_wp2
  go_ret
  exact⟨rfl,rfl⟩
theorem r7idx_is (n:Int) (t:Bool) (w:World) (h:inR n 5000 80000=t):Calls Tryz.prog 78 #[.int .i64 n] w fun e w'=>e = .returned (.bool t)∧w'=w:=by
 have C:=Lib.hid (fun w=>r7within_is n 5000 80000 t w h)
 clear h
 go_enter Tryz.func78,Tryz.ntmps78
 go_wp2_with (go_at_call 30;refine(C.out _).mono ?_;rintro e w' ⟨rfl,rfl⟩)
 go_ret
 exact⟨rfl,rfl⟩
theorem r7thick_is (n:Int) (t:Bool) (w:World) (h:inR n 0 1000000=t):Calls Tryz.prog 137 #[.int .i64 n] w fun e w'=>e = .returned (.bool t)∧w'=w:=by
 have C:=Lib.hid (fun w=>r7within_is n 0 1000000 t w h)
 clear h
 go_enter Tryz.func137,Tryz.ntmps137
 go_wp2_with (go_at_call 30;refine(C.out _).mono ?_;rintro e w' ⟨rfl,rfl⟩)
 go_ret
 exact⟨rfl,rfl⟩
theorem r7loss_is (n:Int) (t:Bool) (w:World) (h:inR n 0 80000=t):Calls Tryz.prog 80 #[.int .i64 n] w fun e w'=>e = .returned (.bool t)∧w'=w:=by
 have C:=Lib.hid (fun w=>r7within_is n 0 80000 t w h)
 clear h
 go_enter Tryz.func80,Tryz.ntmps80
 go_wp2_with (go_at_call 30;refine(C.out _).mono ?_;rintro e w' ⟨rfl,rfl⟩)
 go_ret
 exact⟨rfl,rfl⟩
@[irreducible] def boxQ (b:Box):Int :=
 if inR b.il 5000 80000=true∧inR b.ih 5000 80000=true∧inR b.tl 0 1000000=true∧inR b.th 0 1000000=true∧inR b.lo 0 80000=true then(if b.ih<b.il∨b.th<b.tl then 10 else 0)else 2
theorem boxQ_range {b:Box} (h:¬(inR b.il 5000 80000=true∧inR b.ih 5000 80000=true∧inR b.tl 0 1000000=true∧inR b.th 0 1000000=true∧inR b.lo 0 80000=true)):boxQ b=2:=by unfold boxQ;rw[if_neg h]
theorem boxQ_order {b:Box} (h:inR b.il 5000 80000=true∧inR b.ih 5000 80000=true∧inR b.tl 0 1000000=true∧inR b.th 0 1000000=true∧inR b.lo 0 80000=true) (h2:b.ih<b.il∨b.th<b.tl):boxQ b=10:=by unfold boxQ;rw[if_pos h,if_pos h2]
theorem boxQ_ok {b:Box} (h:inR b.il 5000 80000=true∧inR b.ih 5000 80000=true∧inR b.tl 0 1000000=true∧inR b.th 0 1000000=true∧inR b.lo 0 80000=true) (h2:¬(b.ih<b.il∨b.th<b.tl)):boxQ b=0:=by unfold boxQ;rw[if_pos h,if_neg h2]
theorem boxQ_zero {b:Box} : boxQ b=0↔BoxOk b:=by
 constructor
 ·intro h
  unfold boxQ at h
  split at h
  ·rename_i c
   split at h
   ·exact absurd h (by decide)
   ·rename_i d
    simp only[inR_yes]at c
    exact⟨by omega,by omega,by omega,by omega,by omega,by omega,by omega,by omega⟩
  ·exact absurd h (by decide)
 ·rintro⟨h0,h1,h2,h3,h4,h5,h6,h7⟩
  exact boxQ_ok ⟨inR_yes.2 (by omega),inR_yes.2 (by omega),inR_yes.2 (by omega),inR_yes.2 (by omega),inR_yes.2 (by omega)⟩ (by omega)
def firstQ:List Box→Nat→Int × Int
 | [],_=>(0,0)
 | b::l,i=>if boxQ b=0 then firstQ l (i+1)else((i:Int),boxQ b)
@[irreducible] def checkI (ls:List Box):Int:=if ls.length=0 then 0 else if 6<ls.length then 0 else(firstQ ls 0).1
@[irreducible] def checkQ (ls:List Box):Int:=if ls.length=0 then 12 else if 6<ls.length then 8 else(firstQ ls 0).2
def HidF (ls:List Box) (T:Int × Int) (k:Nat):Prop:=firstQ (ls.drop k) k=T
theorem hidF_next {ls:List Box}{T:Int × Int}{k:Nat}{b:Box} (h:HidF ls T k) (hb:ls[k]?=some b) (h0:boxQ b=0):HidF ls T (k+1):=by
 obtain⟨hl,e⟩:=List.getElem?_eq_some_iff.1 hb
 unfold HidF at h ⊢
 rw[List.drop_eq_getElem_cons hl,e]at h
 simpa[firstQ,h0]using h
theorem hidF_bad {ls:List Box}{T:Int × Int}{k:Nat}{b:Box}{q:Int} (h:HidF ls T k) (hb:ls[k]?=some b) (h0:boxQ b=q) (hq:q≠0):T.1=k∧T.2=q:=by
 obtain⟨hl,e⟩:=List.getElem?_eq_some_iff.1 hb
 unfold HidF at h
 rw[List.drop_eq_getElem_cons hl,e]at h
 simp only[firstQ,h0,if_neg hq]at h
 rw[← h]
 exact⟨rfl,rfl⟩
theorem hidF_end {ls:List Box}{T:Int × Int}{k:Nat} (h:HidF ls T k) (hk:k=ls.length):T.1=0∧T.2=0:=by
 unfold HidF at h
 rw[List.drop_of_length_le (by omega)]at h
 rw[← h]
 exact⟨rfl,rfl⟩
theorem checkQ_zero {ls:List Box} (h:checkQ ls=0):(∀b∈ls,BoxOk b)∧1≤ls.length∧ls.length≤6:=by
 have aux:∀(l:List Box) (i:Nat),(firstQ l i).2=0→∀b∈l,BoxOk b:=by
  intro l
  induction l with
  | nil=>intro i _ b hb;cases hb
  | cons c l ih =>
   intro i h b hb
   by_cases h0:boxQ c=0
   ·simp only[firstQ,if_pos h0]at h
    rcases List.mem_cons.1 hb with rfl|hb
    ·exact boxQ_zero.1 h0
    ·exact ih _ h b hb
   ·simp only[firstQ,if_neg h0]at h
    exact absurd h h0
 unfold checkQ at h
 split at h
 ·exact absurd h (by decide)
 ·split at h
  ·exact absurd h (by decide)
  ·exact⟨aux _ _ h,by omega,by omega⟩
set_option maxHeartbeats 4000000 in
theorem fcheck_any (pa:Option Addr) (ls:List Box) (cap:Nat) (w:World) (hr:Row pa ls w) :
  Calls Tryz.prog 107 #[.slice pa ls.length cap] w fun e w'=>e = .returned (.tuple #[.int .i64 (checkI ls),.int .i64 (checkQ ls)])∧Below w.heap.size w w':=by
 unfold checkI checkQ
 by_cases c0:ls.length=0
 ·rw[if_pos c0,if_pos c0,c0]
  go_enter Tryz.func107,Tryz.ntmps107
  repeat' (first|go_values|go_skip|go_guarded|go_step|go_upon|(simp only[];go_simp))
  go_ret2
  exact⟨rfl,blw⟩
 rw[if_neg c0,if_neg c0]
 by_cases c1:6<ls.length
 ·rw[if_pos c1,if_pos c1]
  generalize ls.length=n at *
  have h1:(6:Int)<n:=by omega
  have h2:¬((n:Int)=0):=by omega
  go_enter Tryz.func107,Tryz.ntmps107
  repeat' (first|go_values|go_skip|go_guarded|go_step|go_upon|(simp only[];go_simp))
  go_ret2
  exact⟨rfl,blw⟩
 rw[if_neg c1,if_neg c1]
 obtain⟨T,hT⟩:∃T,HidF ls T 0:=⟨_,rfl⟩
 have e1:firstQ ls 0=T:=hT
 rw[e1]
 clear e1
 obtain⟨T0,T1⟩:=T
 simp only
 have h1:¬((6:Int)<ls.length):=by omega
 have h2:¬((ls.length:Int)=0):=by omega
 go_enter Tryz.func107,Tryz.ntmps107
 go_wp2_with fail
 go_loopw [16] (fun i wr=>∃k:Nat,k≤ls.length∧i = .int .i64 k∧Below w.heap.size w wr∧HidF ls (T0,T1) k) (fun i _=>ls.length-(intOf i).toNat)
 case atStart=>exact⟨0,by omega,rfl,blw,hT⟩
 case round =>
  obtain⟨k,hk,rfl,A8,HF⟩:=hrel
  by_cases hlt:k<ls.length
  ·obtain⟨b,hb⟩:∃b,ls[k]?=some b:=⟨_,List.getElem?_eq_getElem hlt⟩
   obtain⟨a,ha,hal,hE⟩:=hr.get k b hb
   subst ha
   have hE:=boxAt.bel hE A8 hal
   obtain⟨E1,E2,E3,E4,E5⟩:=hE
   have hal2:(a.add (k*5)).block<wr.heap.size:=by have:=A8.size;omega
   have hal3:¬(a.add (k*5)).block=wr.heap.size:=by omega
   have hlt2:(k:Int)<ls.length:=by omega
   have HN:=hidF_next HF hb
   have HB:=fun q=>hidF_bad (q:=q) HF hb
   clear hT HF hr hb
   have HN:=Lib.hid HN
   have HB:=Lib.hid HB
   by_cases g0:inR b.il 5000 80000=true
   case neg =>
    obtain⟨z1,z2⟩:=HB.out 2 (boxQ_range (fun h=>g0 h.1)) (by decide)
    simp only at z1 z2
    subst z1;subst z2
    have g0':inR b.il 5000 80000=false:=by simpa using g0
    go_wp2_with fail
    refine(fidx_is _ _ _ g0').mono ?_
    rintro e w' ⟨rfl,rfl⟩
    repeat' (first|go_values|go_skip|go_guarded|go_step|go_upon|(simp only[];go_simp))
    go_ret2
    exact⟨rfl,blw⟩
   by_cases g1:inR b.ih 5000 80000=true
   case neg =>
    obtain⟨z1,z2⟩:=HB.out 2 (boxQ_range (fun h=>g1 h.2.1)) (by decide)
    simp only at z1 z2
    subst z1;subst z2
    have g1':inR b.ih 5000 80000=false:=by simpa using g1
    go_wp2_with fail
    refine(fidx_is _ _ _ g0).mono ?_
    rintro e w' ⟨rfl,rfl⟩
    go_wp2_with fail
    refine(fidx_is _ _ _ g1').mono ?_
    rintro e w' ⟨rfl,rfl⟩
    repeat' (first|go_values|go_skip|go_guarded|go_step|go_upon|(simp only[];go_simp))
    go_ret2
    exact⟨rfl,blw⟩
   by_cases g2:inR b.tl 0 1000000=true
   case neg =>
    obtain⟨z1,z2⟩:=HB.out 2 (boxQ_range (fun h=>g2 h.2.2.1)) (by decide)
    simp only at z1 z2
    subst z1;subst z2
    have g2':inR b.tl 0 1000000=false:=by simpa using g2
    go_wp2_with fail
    refine(fidx_is _ _ _ g0).mono ?_
    rintro e w' ⟨rfl,rfl⟩
    go_wp2_with fail
    refine(fidx_is _ _ _ g1).mono ?_
    rintro e w' ⟨rfl,rfl⟩
    go_wp2_with fail
    refine(fthick_is _ _ _ g2').mono ?_
    rintro e w' ⟨rfl,rfl⟩
    repeat' (first|go_values|go_skip|go_guarded|go_step|go_upon|(simp only[];go_simp))
    go_ret2
    exact⟨rfl,blw⟩
   by_cases g3:inR b.th 0 1000000=true
   case neg =>
    obtain⟨z1,z2⟩:=HB.out 2 (boxQ_range (fun h=>g3 h.2.2.2.1)) (by decide)
    simp only at z1 z2
    subst z1;subst z2
    have g3':inR b.th 0 1000000=false:=by simpa using g3
    go_wp2_with fail
    refine(fidx_is _ _ _ g0).mono ?_
    rintro e w' ⟨rfl,rfl⟩
    go_wp2_with fail
    refine(fidx_is _ _ _ g1).mono ?_
    rintro e w' ⟨rfl,rfl⟩
    go_wp2_with fail
    refine(fthick_is _ _ _ g2).mono ?_
    rintro e w' ⟨rfl,rfl⟩
    go_wp2_with fail
    refine(fthick_is _ _ _ g3').mono ?_
    rintro e w' ⟨rfl,rfl⟩
    repeat' (first|go_values|go_skip|go_guarded|go_step|go_upon|(simp only[];go_simp))
    go_ret2
    exact⟨rfl,blw⟩
   by_cases g4:inR b.lo 0 80000=true
   case neg =>
    obtain⟨z1,z2⟩:=HB.out 2 (boxQ_range (fun h=>g4 h.2.2.2.2)) (by decide)
    simp only at z1 z2
    subst z1;subst z2
    have g4':inR b.lo 0 80000=false:=by simpa using g4
    go_wp2_with fail
    refine(fidx_is _ _ _ g0).mono ?_
    rintro e w' ⟨rfl,rfl⟩
    go_wp2_with fail
    refine(fidx_is _ _ _ g1).mono ?_
    rintro e w' ⟨rfl,rfl⟩
    go_wp2_with fail
    refine(fthick_is _ _ _ g2).mono ?_
    rintro e w' ⟨rfl,rfl⟩
    go_wp2_with fail
    refine(fthick_is _ _ _ g3).mono ?_
    rintro e w' ⟨rfl,rfl⟩
    go_wp2_with fail
    refine(floss_is _ _ _ g4').mono ?_
    rintro e w' ⟨rfl,rfl⟩
    repeat' (first|go_values|go_skip|go_guarded|go_step|go_upon|(simp only[];go_simp))
    go_ret2
    exact⟨rfl,blw⟩
   by_cases d0:b.ih<b.il
   case pos =>
    obtain⟨z1,z2⟩:=HB.out 10 (boxQ_order ⟨g0,g1,g2,g3,g4⟩ (.inl d0)) (by decide)
    simp only at z1 z2
    subst z1;subst z2
    go_wp2_with fail
    refine(fidx_is _ _ _ g0).mono ?_
    rintro e w' ⟨rfl,rfl⟩
    go_wp2_with fail
    refine(fidx_is _ _ _ g1).mono ?_
    rintro e w' ⟨rfl,rfl⟩
    go_wp2_with fail
    refine(fthick_is _ _ _ g2).mono ?_
    rintro e w' ⟨rfl,rfl⟩
    go_wp2_with fail
    refine(fthick_is _ _ _ g3).mono ?_
    rintro e w' ⟨rfl,rfl⟩
    go_wp2_with fail
    refine(floss_is _ _ _ g4).mono ?_
    rintro e w' ⟨rfl,rfl⟩
    repeat' (first|go_values|go_skip|go_guarded|go_step|go_upon|(simp only[];go_simp))
    go_ret2
    exact⟨rfl,blw⟩
   by_cases d1:b.th<b.tl
   case pos =>
    obtain⟨z1,z2⟩:=HB.out 10 (boxQ_order ⟨g0,g1,g2,g3,g4⟩ (.inr d1)) (by decide)
    simp only at z1 z2
    subst z1;subst z2
    go_wp2_with fail
    refine(fidx_is _ _ _ g0).mono ?_
    rintro e w' ⟨rfl,rfl⟩
    go_wp2_with fail
    refine(fidx_is _ _ _ g1).mono ?_
    rintro e w' ⟨rfl,rfl⟩
    go_wp2_with fail
    refine(fthick_is _ _ _ g2).mono ?_
    rintro e w' ⟨rfl,rfl⟩
    go_wp2_with fail
    refine(fthick_is _ _ _ g3).mono ?_
    rintro e w' ⟨rfl,rfl⟩
    go_wp2_with fail
    refine(floss_is _ _ _ g4).mono ?_
    rintro e w' ⟨rfl,rfl⟩
    repeat' (first|go_values|go_skip|go_guarded|go_step|go_upon|(simp only[];go_simp))
    go_ret2
    exact⟨rfl,blw⟩
   have HN:=HN.out (boxQ_ok ⟨g0,g1,g2,g3,g4⟩ (by omega))
   clear HB
   go_wp2_with fail
   refine(fidx_is _ _ _ g0).mono ?_
   rintro e w' ⟨rfl,rfl⟩
   go_wp2_with fail
   refine(fidx_is _ _ _ g1).mono ?_
   rintro e w' ⟨rfl,rfl⟩
   go_wp2_with fail
   refine(fthick_is _ _ _ g2).mono ?_
   rintro e w' ⟨rfl,rfl⟩
   go_wp2_with fail
   refine(fthick_is _ _ _ g3).mono ?_
   rintro e w' ⟨rfl,rfl⟩
   go_wp2_with fail
   refine(floss_is _ _ _ g4).mono ?_
   rintro e w' ⟨rfl,rfl⟩
   go_wp2_with fail
   go_roundw
   case rel=>exact⟨k+1,by omega,by first|(simp;done)|(simp;omega),blw,HN⟩
   case measure=>simp[intOf];omega
  ·have hke:k=ls.length:=by omega
   obtain⟨z1,z2⟩:=hidF_end HF hke
   simp only at z1 z2
   subst z1;subst z2
   have hlt2:¬(k:Int)<ls.length:=by omega
   clear hke HF hT
   repeat' (first|go_values|go_skip|go_guarded|go_step|go_upon|(simp only[];go_simp))
   go_ret2
   exact⟨rfl,blw⟩
set_option maxHeartbeats 4000000 in
theorem rcheck_any (pa:Option Addr) (ls:List Box) (cap:Nat) (w:World) (hr:Row pa ls w) :
  Calls Tryz.prog 79 #[.slice pa ls.length cap] w fun e w'=>e = .returned (.tuple #[.int .i64 (checkI ls),.int .i64 (checkQ ls)])∧Below w.heap.size w w':=by
 unfold checkI checkQ
 by_cases c0:ls.length=0
 ·rw[if_pos c0,if_pos c0,c0]
  go_enter Tryz.func79,Tryz.ntmps79
  repeat' (first|go_values|go_skip|go_guarded|go_step|go_upon|(simp only[];go_simp))
  go_ret2
  exact⟨rfl,blw⟩
 rw[if_neg c0,if_neg c0]
 by_cases c1:6<ls.length
 ·rw[if_pos c1,if_pos c1]
  generalize ls.length=n at *
  have h1:(6:Int)<n:=by omega
  have h2:¬((n:Int)=0):=by omega
  go_enter Tryz.func79,Tryz.ntmps79
  repeat' (first|go_values|go_skip|go_guarded|go_step|go_upon|(simp only[];go_simp))
  go_ret2
  exact⟨rfl,blw⟩
 rw[if_neg c1,if_neg c1]
 obtain⟨T,hT⟩:∃T,HidF ls T 0:=⟨_,rfl⟩
 have e1:firstQ ls 0=T:=hT
 rw[e1]
 clear e1
 obtain⟨T0,T1⟩:=T
 simp only
 have h1:¬((6:Int)<ls.length):=by omega
 have h2:¬((ls.length:Int)=0):=by omega
 go_enter Tryz.func79,Tryz.ntmps79
 go_wp2_with fail
 go_loopw [4] (fun i wr=>∃k:Nat,k≤ls.length∧i = .int .i64 k∧Below w.heap.size w wr∧HidF ls (T0,T1) k) (fun i _=>ls.length-(intOf i).toNat)
 case atStart=>exact⟨0,by omega,rfl,blw,hT⟩
 case round =>
  obtain⟨k,hk,rfl,A8,HF⟩:=hrel
  by_cases hlt:k<ls.length
  ·obtain⟨b,hb⟩:∃b,ls[k]?=some b:=⟨_,List.getElem?_eq_getElem hlt⟩
   obtain⟨a,ha,hal,hE⟩:=hr.get k b hb
   subst ha
   have hE:=boxAt.bel hE A8 hal
   obtain⟨E1,E2,E3,E4,E5⟩:=hE
   have hal2:(a.add (k*5)).block<wr.heap.size:=by have:=A8.size;omega
   have hal3:¬(a.add (k*5)).block=wr.heap.size:=by omega
   have hlt2:(k:Int)<ls.length:=by omega
   have HN:=hidF_next HF hb
   have HB:=fun q=>hidF_bad (q:=q) HF hb
   clear hT HF hr hb
   have HN:=Lib.hid HN
   have HB:=Lib.hid HB
   by_cases g0:inR b.il 5000 80000=true
   case neg =>
    obtain⟨z1,z2⟩:=HB.out 2 (boxQ_range (fun h=>g0 h.1)) (by decide)
    simp only at z1 z2
    subst z1;subst z2
    have g0':inR b.il 5000 80000=false:=by simpa using g0
    go_wp2_with fail
    refine(r7idx_is _ _ _ g0').mono ?_
    rintro e w' ⟨rfl,rfl⟩
    repeat' (first|go_values|go_skip|go_guarded|go_step|go_upon|(simp only[];go_simp))
    go_ret2
    exact⟨rfl,blw⟩
   by_cases g1:inR b.ih 5000 80000=true
   case neg =>
    obtain⟨z1,z2⟩:=HB.out 2 (boxQ_range (fun h=>g1 h.2.1)) (by decide)
    simp only at z1 z2
    subst z1;subst z2
    have g1':inR b.ih 5000 80000=false:=by simpa using g1
    go_wp2_with fail
    refine(r7idx_is _ _ _ g0).mono ?_
    rintro e w' ⟨rfl,rfl⟩
    go_wp2_with fail
    refine(r7idx_is _ _ _ g1').mono ?_
    rintro e w' ⟨rfl,rfl⟩
    repeat' (first|go_values|go_skip|go_guarded|go_step|go_upon|(simp only[];go_simp))
    go_ret2
    exact⟨rfl,blw⟩
   by_cases g2:inR b.tl 0 1000000=true
   case neg =>
    obtain⟨z1,z2⟩:=HB.out 2 (boxQ_range (fun h=>g2 h.2.2.1)) (by decide)
    simp only at z1 z2
    subst z1;subst z2
    have g2':inR b.tl 0 1000000=false:=by simpa using g2
    go_wp2_with fail
    refine(r7idx_is _ _ _ g0).mono ?_
    rintro e w' ⟨rfl,rfl⟩
    go_wp2_with fail
    refine(r7idx_is _ _ _ g1).mono ?_
    rintro e w' ⟨rfl,rfl⟩
    go_wp2_with fail
    refine(r7thick_is _ _ _ g2').mono ?_
    rintro e w' ⟨rfl,rfl⟩
    repeat' (first|go_values|go_skip|go_guarded|go_step|go_upon|(simp only[];go_simp))
    go_ret2
    exact⟨rfl,blw⟩
   by_cases g3:inR b.th 0 1000000=true
   case neg =>
    obtain⟨z1,z2⟩:=HB.out 2 (boxQ_range (fun h=>g3 h.2.2.2.1)) (by decide)
    simp only at z1 z2
    subst z1;subst z2
    have g3':inR b.th 0 1000000=false:=by simpa using g3
    go_wp2_with fail
    refine(r7idx_is _ _ _ g0).mono ?_
    rintro e w' ⟨rfl,rfl⟩
    go_wp2_with fail
    refine(r7idx_is _ _ _ g1).mono ?_
    rintro e w' ⟨rfl,rfl⟩
    go_wp2_with fail
    refine(r7thick_is _ _ _ g2).mono ?_
    rintro e w' ⟨rfl,rfl⟩
    go_wp2_with fail
    refine(r7thick_is _ _ _ g3').mono ?_
    rintro e w' ⟨rfl,rfl⟩
    repeat' (first|go_values|go_skip|go_guarded|go_step|go_upon|(simp only[];go_simp))
    go_ret2
    exact⟨rfl,blw⟩
   by_cases g4:inR b.lo 0 80000=true
   case neg =>
    obtain⟨z1,z2⟩:=HB.out 2 (boxQ_range (fun h=>g4 h.2.2.2.2)) (by decide)
    simp only at z1 z2
    subst z1;subst z2
    have g4':inR b.lo 0 80000=false:=by simpa using g4
    go_wp2_with fail
    refine(r7idx_is _ _ _ g0).mono ?_
    rintro e w' ⟨rfl,rfl⟩
    go_wp2_with fail
    refine(r7idx_is _ _ _ g1).mono ?_
    rintro e w' ⟨rfl,rfl⟩
    go_wp2_with fail
    refine(r7thick_is _ _ _ g2).mono ?_
    rintro e w' ⟨rfl,rfl⟩
    go_wp2_with fail
    refine(r7thick_is _ _ _ g3).mono ?_
    rintro e w' ⟨rfl,rfl⟩
    go_wp2_with fail
    refine(r7loss_is _ _ _ g4').mono ?_
    rintro e w' ⟨rfl,rfl⟩
    repeat' (first|go_values|go_skip|go_guarded|go_step|go_upon|(simp only[];go_simp))
    go_ret2
    exact⟨rfl,blw⟩
   by_cases d0:b.ih<b.il
   case pos =>
    obtain⟨z1,z2⟩:=HB.out 10 (boxQ_order ⟨g0,g1,g2,g3,g4⟩ (.inl d0)) (by decide)
    simp only at z1 z2
    subst z1;subst z2
    go_wp2_with fail
    refine(r7idx_is _ _ _ g0).mono ?_
    rintro e w' ⟨rfl,rfl⟩
    go_wp2_with fail
    refine(r7idx_is _ _ _ g1).mono ?_
    rintro e w' ⟨rfl,rfl⟩
    go_wp2_with fail
    refine(r7thick_is _ _ _ g2).mono ?_
    rintro e w' ⟨rfl,rfl⟩
    go_wp2_with fail
    refine(r7thick_is _ _ _ g3).mono ?_
    rintro e w' ⟨rfl,rfl⟩
    go_wp2_with fail
    refine(r7loss_is _ _ _ g4).mono ?_
    rintro e w' ⟨rfl,rfl⟩
    repeat' (first|go_values|go_skip|go_guarded|go_step|go_upon|(simp only[];go_simp))
    go_ret2
    exact⟨rfl,blw⟩
   by_cases d1:b.th<b.tl
   case pos =>
    obtain⟨z1,z2⟩:=HB.out 10 (boxQ_order ⟨g0,g1,g2,g3,g4⟩ (.inr d1)) (by decide)
    simp only at z1 z2
    subst z1;subst z2
    go_wp2_with fail
    refine(r7idx_is _ _ _ g0).mono ?_
    rintro e w' ⟨rfl,rfl⟩
    go_wp2_with fail
    refine(r7idx_is _ _ _ g1).mono ?_
    rintro e w' ⟨rfl,rfl⟩
    go_wp2_with fail
    refine(r7thick_is _ _ _ g2).mono ?_
    rintro e w' ⟨rfl,rfl⟩
    go_wp2_with fail
    refine(r7thick_is _ _ _ g3).mono ?_
    rintro e w' ⟨rfl,rfl⟩
    go_wp2_with fail
    refine(r7loss_is _ _ _ g4).mono ?_
    rintro e w' ⟨rfl,rfl⟩
    repeat' (first|go_values|go_skip|go_guarded|go_step|go_upon|(simp only[];go_simp))
    go_ret2
    exact⟨rfl,blw⟩
   have HN:=HN.out (boxQ_ok ⟨g0,g1,g2,g3,g4⟩ (by omega))
   clear HB
   go_wp2_with fail
   refine(r7idx_is _ _ _ g0).mono ?_
   rintro e w' ⟨rfl,rfl⟩
   go_wp2_with fail
   refine(r7idx_is _ _ _ g1).mono ?_
   rintro e w' ⟨rfl,rfl⟩
   go_wp2_with fail
   refine(r7thick_is _ _ _ g2).mono ?_
   rintro e w' ⟨rfl,rfl⟩
   go_wp2_with fail
   refine(r7thick_is _ _ _ g3).mono ?_
   rintro e w' ⟨rfl,rfl⟩
   go_wp2_with fail
   refine(r7loss_is _ _ _ g4).mono ?_
   rintro e w' ⟨rfl,rfl⟩
   go_wp2_with fail
   go_roundw
   case rel=>exact⟨k+1,by omega,by first|(simp;done)|(simp;omega),blw,HN⟩
   case measure=>simp[intOf];omega
  ·have hke:k=ls.length:=by omega
   obtain⟨z1,z2⟩:=hidF_end HF hke
   simp only at z1 z2
   subst z1;subst z2
   have hlt2:¬(k:Int)<ls.length:=by omega
   clear hke HF hT
   repeat' (first|go_values|go_skip|go_guarded|go_step|go_upon|(simp only[];go_simp))
   go_ret2
   exact⟨rfl,blw⟩
theorem ferr_any (pa:Option Addr) (ls:List Box) (cap:Nat) (w:World) (hr:Row pa ls w) :
  Calls Tryz.prog 75 #[.slice pa ls.length cap] w fun e w'=>e = .returned (.int .i64 (checkQ ls))∧Below w.heap.size w w':=by
 have C:=Lib.hid (fcheck_any pa ls cap w hr)
 clear hr
 generalize checkI ls=I at *
 generalize checkQ ls=Q at *
 generalize ls.length=n at *
 go_enter Tryz.func75,Tryz.ntmps75
 go_wp2_with fail
 refine(C.out).mono ?_
 rintro e w1 ⟨rfl,A0⟩
 have A7:=A0.size
 (try simp at A7)
 repeat' (first|go_values|go_skip|go_guarded|go_step|go_upon|(simp only[];go_simp))
 go_ret
 exact⟨rfl,blw⟩
theorem rberr_any (pa:Option Addr) (ls:List Box) (cap:Nat) (w:World) (hr:Row pa ls w) :
  Calls Tryz.prog 20 #[.slice pa ls.length cap] w fun e w'=>e = .returned (.int .i64 (checkQ ls))∧Below w.heap.size w w':=by
 have C:=Lib.hid (rcheck_any pa ls cap w hr)
 clear hr
 generalize checkI ls=I at *
 generalize checkQ ls=Q at *
 generalize ls.length=n at *
 go_enter Tryz.func20,Tryz.ntmps20
 go_wp2_with fail
 refine(C.out).mono ?_
 rintro e w1 ⟨rfl,A0⟩
 have A7:=A0.size
 (try simp at A7)
 repeat' (first|go_values|go_skip|go_guarded|go_step|go_upon|(simp only[];go_simp))
 go_ret
 exact⟨rfl,blw⟩
end Go.Proofs.YtjbfaaolfonmaaaGreat
namespace Go.Proofs.YtjbfaaolfonmaaaGreat
open Go Go.Sort Go.RowKit
@[irreducible] def setQ (wv ix si:Int):Int:=if inR wv 1000 200000=true∧inR ix 5000 80000=true∧inR si 0 9999=true then 0 else 2
@[irreducible] def onQ (oi ol:Int):Int:=if inR oi 5000 80000=true∧inR ol 0 80000=true then 0 else 2
theorem setQ_ok {wv ix si:Int} (h1:inR wv 1000 200000=true) (h2:inR ix 5000 80000=true) (h3:inR si 0 9999=true):setQ wv ix si=0:=by unfold setQ;rw[if_pos ⟨h1,h2,h3⟩]
theorem setQ_1 {wv ix si:Int} (h:inR wv 1000 200000=false):setQ wv ix si=2:=by unfold setQ;rw[if_neg (fun k=>by rw[h]at k;exact absurd k.1 (by decide))]
theorem setQ_2 {wv ix si:Int} (h:inR ix 5000 80000=false):setQ wv ix si=2:=by unfold setQ;rw[if_neg (fun k=>by rw[h]at k;exact absurd k.2.1 (by decide))]
theorem setQ_3 {wv ix si:Int} (h:inR si 0 9999=false):setQ wv ix si=2:=by unfold setQ;rw[if_neg (fun k=>by rw[h]at k;exact absurd k.2.2 (by decide))]
theorem setQ_zero {wv ix si:Int} (h:setQ wv ix si=0):(1000≤wv∧wv≤200000)∧(5000≤ix∧ix≤80000)∧(0≤si∧si≤9999):=by
 unfold setQ at h
 split at h
 ·rename_i c;exact⟨inR_yes.1 c.1,inR_yes.1 c.2.1,inR_yes.1 c.2.2⟩
 ·exact absurd h (by decide)
theorem onQ_ok {oi ol:Int} (h1:inR oi 5000 80000=true) (h2:inR ol 0 80000=true):onQ oi ol=0:=by unfold onQ;rw[if_pos ⟨h1,h2⟩]
theorem onQ_1 {oi ol:Int} (h:inR oi 5000 80000=false):onQ oi ol=2:=by unfold onQ;rw[if_neg (fun k=>by rw[h]at k;exact absurd k.1 (by decide))]
theorem onQ_2 {oi ol:Int} (h:inR ol 0 80000=false):onQ oi ol=2:=by unfold onQ;rw[if_neg (fun k=>by rw[h]at k;exact absurd k.2 (by decide))]
theorem onQ_zero {oi ol:Int} (h:onQ oi ol=0):(5000≤oi∧oi≤80000)∧(0≤ol∧ol≤80000):=by
 unfold onQ at h
 split at h
 ·rename_i c;exact⟨inR_yes.1 c.1,inR_yes.1 c.2⟩
 ·exact absurd h (by decide)
set_option maxHeartbeats 1000000 in
theorem settingErr_any (wv ix si:Int) (w:World):Calls Tryz.prog 74 #[.agg #[.int .i64 wv,.int .i64 ix,.int .i64 si]] w fun e w'=>e = .returned (.int .i64 (setQ wv ix si))∧Below w.heap.size w w':=by
 cases h1:inR wv 1000 200000
 ·rw[setQ_1 h1]
  have C1:=Lib.hid (fun w=>fwithin_is _ _ _ _ w h1)
  clear h1
  go_enter Tryz.func74,Tryz.ntmps74
  go_wp2_with fail
  refine(C1.out _).mono ?_
  rintro e w' ⟨rfl,rfl⟩
  repeat' (first|go_values|go_skip|go_guarded|go_step|go_upon|(simp only[];go_simp))
  go_ret
  exact⟨rfl,blw⟩
 ·have C1:=Lib.hid (fun w=>fwithin_is _ _ _ _ w h1)
  cases h2:inR ix 5000 80000
  ·rw[setQ_2 h2]
   have C2:=Lib.hid (fun w=>fidx_is _ _ w h2)
   clear h1 h2
   go_enter Tryz.func74,Tryz.ntmps74
   go_wp2_with fail
   refine(C1.out _).mono ?_
   rintro e w' ⟨rfl,rfl⟩
   go_wp2_with fail
   refine(C2.out _).mono ?_
   rintro e w' ⟨rfl,rfl⟩
   repeat' (first|go_values|go_skip|go_guarded|go_step|go_upon|(simp only[];go_simp))
   go_ret
   exact⟨rfl,blw⟩
  ·have C2:=Lib.hid (fun w=>fidx_is _ _ w h2)
   cases h3:inR si 0 9999
   ·rw[setQ_3 h3]
    have C3:=Lib.hid (fun w=>fwithin_is _ _ _ _ w h3)
    clear h1 h2 h3
    go_enter Tryz.func74,Tryz.ntmps74
    go_wp2_with fail
    refine(C1.out _).mono ?_
    rintro e w' ⟨rfl,rfl⟩
    go_wp2_with fail
    refine(C2.out _).mono ?_
    rintro e w' ⟨rfl,rfl⟩
    go_wp2_with fail
    refine(C3.out _).mono ?_
    rintro e w' ⟨rfl,rfl⟩
    repeat' (first|go_values|go_skip|go_guarded|go_step|go_upon|(simp only[];go_simp))
    go_ret
    exact⟨rfl,blw⟩
   ·rw[setQ_ok h1 h2 h3]
    have C3:=Lib.hid (fun w=>fwithin_is _ _ _ _ w h3)
    clear h1 h2 h3
    go_enter Tryz.func74,Tryz.ntmps74
    go_wp2_with fail
    refine(C1.out _).mono ?_
    rintro e w' ⟨rfl,rfl⟩
    go_wp2_with fail
    refine(C2.out _).mono ?_
    rintro e w' ⟨rfl,rfl⟩
    go_wp2_with fail
    refine(C3.out _).mono ?_
    rintro e w' ⟨rfl,rfl⟩
    repeat' (first|go_values|go_skip|go_guarded|go_step|go_upon|(simp only[];go_simp))
    go_ret
    exact⟨rfl,blw⟩
set_option maxHeartbeats 1000000 in
theorem onErr_any (oi ol:Int) (w:World):Calls Tryz.prog 76 #[.agg #[.int .i64 oi,.int .i64 ol]] w fun e w'=>e = .returned (.int .i64 (onQ oi ol))∧Below w.heap.size w w':=by
 cases h1:inR oi 5000 80000
 ·rw[onQ_1 h1]
  have C1:=Lib.hid (fun w=>fidx_is _ _ w h1)
  clear h1
  go_enter Tryz.func76,Tryz.ntmps76
  go_wp2_with fail
  refine(C1.out _).mono ?_
  rintro e w' ⟨rfl,rfl⟩
  repeat' (first|go_values|go_skip|go_guarded|go_step|go_upon|(simp only[];go_simp))
  go_ret
  exact⟨rfl,blw⟩
 ·have C1:=Lib.hid (fun w=>fidx_is _ _ w h1)
  cases h2:inR ol 0 80000
  ·rw[onQ_2 h2]
   have C2:=Lib.hid (fun w=>floss_is _ _ w h2)
   clear h1 h2
   go_enter Tryz.func76,Tryz.ntmps76
   go_wp2_with fail
   refine(C1.out _).mono ?_
   rintro e w' ⟨rfl,rfl⟩
   go_wp2_with fail
   refine(C2.out _).mono ?_
   rintro e w' ⟨rfl,rfl⟩
   repeat' (first|go_values|go_skip|go_guarded|go_step|go_upon|(simp only[];go_simp))
   go_ret
   exact⟨rfl,blw⟩
  ·rw[onQ_ok h1 h2]
   have C2:=Lib.hid (fun w=>floss_is _ _ w h2)
   clear h1 h2
   go_enter Tryz.func76,Tryz.ntmps76
   go_wp2_with fail
   refine(C1.out _).mono ?_
   rintro e w' ⟨rfl,rfl⟩
   go_wp2_with fail
   refine(C2.out _).mono ?_
   rintro e w' ⟨rfl,rfl⟩
   repeat' (first|go_values|go_skip|go_guarded|go_step|go_upon|(simp only[];go_simp))
   go_ret
   exact⟨rfl,blw⟩
set_option maxHeartbeats 1000000 in
theorem rsettingErr_any (wv ix si:Int) (w:World):Calls Tryz.prog 19 #[.agg #[.int .i64 wv,.int .i64 ix,.int .i64 si]] w fun e w'=>e = .returned (.int .i64 (setQ wv ix si))∧Below w.heap.size w w':=by
 cases h1:inR wv 1000 200000
 ·rw[setQ_1 h1]
  have C1:=Lib.hid (fun w=>r7within_is _ _ _ _ w h1)
  clear h1
  go_enter Tryz.func19,Tryz.ntmps19
  go_wp2_with fail
  refine(C1.out _).mono ?_
  rintro e w' ⟨rfl,rfl⟩
  repeat' (first|go_values|go_skip|go_guarded|go_step|go_upon|(simp only[];go_simp))
  go_ret
  exact⟨rfl,blw⟩
 ·have C1:=Lib.hid (fun w=>r7within_is _ _ _ _ w h1)
  cases h2:inR ix 5000 80000
  ·rw[setQ_2 h2]
   have C2:=Lib.hid (fun w=>r7idx_is _ _ w h2)
   clear h1 h2
   go_enter Tryz.func19,Tryz.ntmps19
   go_wp2_with fail
   refine(C1.out _).mono ?_
   rintro e w' ⟨rfl,rfl⟩
   go_wp2_with fail
   refine(C2.out _).mono ?_
   rintro e w' ⟨rfl,rfl⟩
   repeat' (first|go_values|go_skip|go_guarded|go_step|go_upon|(simp only[];go_simp))
   go_ret
   exact⟨rfl,blw⟩
  ·have C2:=Lib.hid (fun w=>r7idx_is _ _ w h2)
   cases h3:inR si 0 9999
   ·rw[setQ_3 h3]
    have C3:=Lib.hid (fun w=>r7within_is _ _ _ _ w h3)
    clear h1 h2 h3
    go_enter Tryz.func19,Tryz.ntmps19
    go_wp2_with fail
    refine(C1.out _).mono ?_
    rintro e w' ⟨rfl,rfl⟩
    go_wp2_with fail
    refine(C2.out _).mono ?_
    rintro e w' ⟨rfl,rfl⟩
    go_wp2_with fail
    refine(C3.out _).mono ?_
    rintro e w' ⟨rfl,rfl⟩
    repeat' (first|go_values|go_skip|go_guarded|go_step|go_upon|(simp only[];go_simp))
    go_ret
    exact⟨rfl,blw⟩
   ·rw[setQ_ok h1 h2 h3]
    have C3:=Lib.hid (fun w=>r7within_is _ _ _ _ w h3)
    clear h1 h2 h3
    go_enter Tryz.func19,Tryz.ntmps19
    go_wp2_with fail
    refine(C1.out _).mono ?_
    rintro e w' ⟨rfl,rfl⟩
    go_wp2_with fail
    refine(C2.out _).mono ?_
    rintro e w' ⟨rfl,rfl⟩
    go_wp2_with fail
    refine(C3.out _).mono ?_
    rintro e w' ⟨rfl,rfl⟩
    repeat' (first|go_values|go_skip|go_guarded|go_step|go_upon|(simp only[];go_simp))
    go_ret
    exact⟨rfl,blw⟩
set_option maxHeartbeats 1000000 in
theorem ronErr_any (oi ol:Int) (w:World):Calls Tryz.prog 21 #[.agg #[.int .i64 oi,.int .i64 ol]] w fun e w'=>e = .returned (.int .i64 (onQ oi ol))∧Below w.heap.size w w':=by
 cases h1:inR oi 5000 80000
 ·rw[onQ_1 h1]
  have C1:=Lib.hid (fun w=>r7idx_is _ _ w h1)
  clear h1
  go_enter Tryz.func21,Tryz.ntmps21
  go_wp2_with fail
  refine(C1.out _).mono ?_
  rintro e w' ⟨rfl,rfl⟩
  repeat' (first|go_values|go_skip|go_guarded|go_step|go_upon|(simp only[];go_simp))
  go_ret
  exact⟨rfl,blw⟩
 ·have C1:=Lib.hid (fun w=>r7idx_is _ _ w h1)
  cases h2:inR ol 0 80000
  ·rw[onQ_2 h2]
   have C2:=Lib.hid (fun w=>r7loss_is _ _ w h2)
   clear h1 h2
   go_enter Tryz.func21,Tryz.ntmps21
   go_wp2_with fail
   refine(C1.out _).mono ?_
   rintro e w' ⟨rfl,rfl⟩
   go_wp2_with fail
   refine(C2.out _).mono ?_
   rintro e w' ⟨rfl,rfl⟩
   repeat' (first|go_values|go_skip|go_guarded|go_step|go_upon|(simp only[];go_simp))
   go_ret
   exact⟨rfl,blw⟩
  ·rw[onQ_ok h1 h2]
   have C2:=Lib.hid (fun w=>r7loss_is _ _ w h2)
   clear h1 h2
   go_enter Tryz.func21,Tryz.ntmps21
   go_wp2_with fail
   refine(C1.out _).mono ?_
   rintro e w' ⟨rfl,rfl⟩
   go_wp2_with fail
   refine(C2.out _).mono ?_
   rintro e w' ⟨rfl,rfl⟩
   repeat' (first|go_values|go_skip|go_guarded|go_step|go_upon|(simp only[];go_simp))
   go_ret
   exact⟨rfl,blw⟩
@[irreducible] def fst3 (a b c:Int):Int:=if a=0 then(if b=0 then c else b)else a
@[irreducible] def fst2 (a b:Int):Int:=if a=0 then b else a
theorem fst3_a {a b c:Int} (h:a≠0):fst3 a b c=a:=by unfold fst3;rw[if_neg h]
theorem fst3_b {b c:Int} (h:b≠0):fst3 0 b c=b:=by unfold fst3;rw[if_pos rfl,if_neg h]
theorem fst3_c {c:Int} : fst3 0 0 c=c:=by unfold fst3;rw[if_pos rfl,if_pos rfl]
theorem fst2_a {a b:Int} (h:a≠0):fst2 a b=a:=by unfold fst2;rw[if_neg h]
theorem fst2_b {b:Int} : fst2 0 b=b:=by unfold fst2;rw[if_pos rfl]
set_option maxHeartbeats 1000000 in
theorem first3_any (g cap:Nat) (a b c:Int) (w:World) (s0:w.cell? ⟨g,0,none⟩=some (.int .i64 a)) (s1:w.cell? ⟨g,1,none⟩=some (.int .i64 b)) (s2:w.cell? ⟨g,2,none⟩=some (.int .i64 c)) :
  Calls Tryz.prog 73 #[.slice (some ⟨g,0,none⟩) 3 cap] w fun e w'=>e = .returned (.int .i64 (fst3 a b c))∧w'=w:=by
 by_cases ha:a=0
 ·subst ha
  have a1:((0:Int) != 0)=false:=by decide
  by_cases hb:b=0
  ·subst hb
   rw[fst3_c]
   by_cases hc:c=0
   ·subst hc
    go_enter Tryz.func73,Tryz.ntmps73
    go_wp2_with fail
    refine wp_loop_rounds 4 ?_
    rw[rounds_succ]
    go_wp2_with fail
    rw[rounds_succ]
    go_wp2_with fail
    rw[rounds_succ]
    go_wp2_with fail
    rw[rounds_succ]
    repeat' (first|go_values|go_skip|go_guarded|go_step|go_upon|(simp only[];go_simp))
    go_ret
    exact⟨rfl,rfl⟩
   ·have c1:(c != 0)=true:=by simpa using hc
    go_enter Tryz.func73,Tryz.ntmps73
    go_wp2_with fail
    refine wp_loop_rounds 4 ?_
    rw[rounds_succ]
    go_wp2_with fail
    rw[rounds_succ]
    go_wp2_with fail
    rw[rounds_succ]
    repeat' (first|go_values|go_skip|go_guarded|go_step|go_upon|(simp only[];go_simp))
    go_ret
    exact⟨rfl,rfl⟩
  ·rw[fst3_b hb]
   have b1:(b != 0)=true:=by simpa using hb
   go_enter Tryz.func73,Tryz.ntmps73
   go_wp2_with fail
   refine wp_loop_rounds 4 ?_
   rw[rounds_succ]
   go_wp2_with fail
   rw[rounds_succ]
   repeat' (first|go_values|go_skip|go_guarded|go_step|go_upon|(simp only[];go_simp))
   go_ret
   exact⟨rfl,rfl⟩
 ·rw[fst3_a ha]
  have a1:(a != 0)=true:=by simpa using ha
  go_enter Tryz.func73,Tryz.ntmps73
  go_wp2_with fail
  refine wp_loop_rounds 4 ?_
  rw[rounds_succ]
  repeat' (first|go_values|go_skip|go_guarded|go_step|go_upon|(simp only[];go_simp))
  go_ret
  exact⟨rfl,rfl⟩
set_option maxHeartbeats 1000000 in
theorem first2_any (g cap:Nat) (a b:Int) (w:World) (s0:w.cell? ⟨g,0,none⟩=some (.int .i64 a)) (s1:w.cell? ⟨g,1,none⟩=some (.int .i64 b)) :
  Calls Tryz.prog 73 #[.slice (some ⟨g,0,none⟩) 2 cap] w fun e w'=>e = .returned (.int .i64 (fst2 a b))∧w'=w:=by
 by_cases ha:a=0
 ·subst ha
  have a1:((0:Int) != 0)=false:=by decide
  rw[fst2_b]
  by_cases hb:b=0
  ·subst hb
   go_enter Tryz.func73,Tryz.ntmps73
   go_wp2_with fail
   refine wp_loop_rounds 4 ?_
   rw[rounds_succ]
   go_wp2_with fail
   rw[rounds_succ]
   go_wp2_with fail
   rw[rounds_succ]
   repeat' (first|go_values|go_skip|go_guarded|go_step|go_upon|(simp only[];go_simp))
   go_ret
   exact⟨rfl,rfl⟩
  ·have b1:(b != 0)=true:=by simpa using hb
   go_enter Tryz.func73,Tryz.ntmps73
   go_wp2_with fail
   refine wp_loop_rounds 4 ?_
   rw[rounds_succ]
   go_wp2_with fail
   rw[rounds_succ]
   repeat' (first|go_values|go_skip|go_guarded|go_step|go_upon|(simp only[];go_simp))
   go_ret
   exact⟨rfl,rfl⟩
 ·rw[fst2_a ha]
  have a1:(a != 0)=true:=by simpa using ha
  go_enter Tryz.func73,Tryz.ntmps73
  go_wp2_with fail
  refine wp_loop_rounds 4 ?_
  rw[rounds_succ]
  repeat' (first|go_values|go_skip|go_guarded|go_step|go_upon|(simp only[];go_simp))
  go_ret
  exact⟨rfl,rfl⟩
end Go.Proofs.YtjbfaaolfonmaaaGreat
namespace Go.Proofs.YtjbfaaolfonmaaaGreat
open Go Go.Sort Go.RowKit
def Box.five (b:Box):List Value := [.int .i64 b.il,.int .i64 b.ih,.int .i64 b.tl,.int .i64 b.th,.int .i64 b.lo]
def cellsOf (ls:List Box):List Value:=ls.flatMap Box.five
theorem cellsOf_len (ls:List Box):(cellsOf ls).length=ls.length*5:=by
 induction ls with
 | nil=>rfl
 | cons b l ih=>simp only[cellsOf,List.flatMap_cons,List.length_append,List.length_cons]at ih ⊢;rw[ih];simp[Box.five];omega
theorem cellsOf_get {ls:List Box}{j i:Nat}{b:Box} (h:ls[j]?=some b) (hi:i<5):(cellsOf ls)[j*5+i]?=b.five[i]?:=by
 induction ls generalizing j with
 | nil=>simp at h
 | cons c l ih =>
  simp only[cellsOf,List.flatMap_cons]at ih ⊢
  cases j with
  | zero =>
   simp at h
   subst h
   rw[List.getElem?_append_left (by simp[Box.five];omega)]
   simp
  | succ j =>
   rw[List.getElem?_append_right (by simp[Box.five];omega)]
   have:(j+1)*5+i-(c.five).length=j*5+i:=by simp[Box.five];omega
   rw[this]
   exact ih (by simpa using h)
theorem cellsOf_inv {ls:List Box}{k:Nat}{u:Value} (h:(cellsOf ls)[k]?=some u):∃b,ls[k/5]?=some b∧b.five[k%5]?=some u:=by
 have hk:k<ls.length*5:=by
  rw[← cellsOf_len]
  exact(List.getElem?_eq_some_iff.1 h).1
 have hj:k/5<ls.length:=by omega
 refine⟨ls[k/5],List.getElem?_eq_getElem hj,?_⟩
 have:=cellsOf_get (List.getElem?_eq_getElem hj) (show k%5<5 by omega)
 rw[← this,show k/5*5+k%5=k by omega]
 exact h
theorem cellsOf_one (ls:List Box):∀u∈cellsOf ls,u.oneCell'=true:=by
 intro u hu
 simp only[cellsOf,List.mem_flatMap,Box.five]at hu
 obtain⟨b,_,hu⟩:=hu
 simp at hu
 rcases hu with rfl|rfl|rfl|rfl|rfl<;>rfl
theorem add_more (a:Addr) (m n:Nat):(a.add m).add n=a.add (m+n):=by
 unfold Addr.add
 by_cases hm:m=0
 ·subst hm;simp
 ·by_cases hn:n=0
  ·subst hn;simp[hm]
  ·simp[hm,hn,Nat.add_assoc]
theorem boxAt_five {w:World}{a:Addr}{b:Box} : boxAt w a b↔∀i,i<5→w.cell? (a.add i)=b.five[i]?:=by
 constructor
 ·rintro⟨h0,h1,h2,h3,h4⟩ i hi
  match i,hi with
  | 0,_=>exact h0
  | 1,_=>exact h1
  | 2,_=>exact h2
  | 3,_=>exact h3
  | 4,_=>exact h4
 ·intro h
  exact⟨h 0 (by omega),h 1 (by omega),h 2 (by omega),h 3 (by omega),h 4 (by omega)⟩
theorem Row.cells {a:Addr}{ls:List Box}{w:World} (h:Row (some a) ls w):∀j u,(cellsOf ls)[j]?=some u→w.cell? (a.add j)=some u:=by
 intro j u hj
 obtain⟨b,hb,hu⟩:=cellsOf_inv hj
 obtain⟨a',ha,_,hE⟩:=h.get _ b hb
 cases ha
 have:=boxAt_five.1 hE (j%5) (by omega)
 rw[add_more,show j/5*5+j%5=j by omega,hu]at this
 exact this
structure OwnBox (ls:List Box) (N g:Nat) (w:World):Prop where
 lo:N≤g
 hi:g<w.heap.size
 at':∀j b,ls[j]?=some b→boxAt w ((⟨g,0,none⟩:Addr).add (j*5)) b
 free:∀o,w.frozen? ⟨g,o,none⟩=false
theorem OwnBox.row {ls:List Box}{N g:Nat}{w:World} (h:OwnBox ls N g w):Row (some ⟨g,0,none⟩) ls w :=
 ⟨fun j b hj=>⟨_,rfl,by rw[block_add];exact h.hi,h.at' j b hj⟩⟩
theorem own_boxes {w:World}{N:Nat}{v:Value}{n:Nat}{ls:List Box} (h:w.ownsRow N 140 5 v n (cellsOf ls)) (hv:v ≠ .slice none 0 0) :
  ∃g cap,v = .slice (some ⟨g,0,none⟩) ls.length cap∧OwnBox ls N g w:=by
 have hn:n=ls.length:=by have:=h.1;rw[cellsOf_len]at this;omega
 rcases h.2 with⟨h0,_⟩|⟨g,cap,cur,rfl,hg,hbk,hc,_,hsz,ht⟩
 ·exact absurd h0 hv
 ·have hl:g<w.heap.size:=by
   rcases Nat.lt_or_ge g w.heap.size with h|h
   ·exact h
   ·rw[Array.getElem?_eq_none h]at hbk;cases hbk
  have hc? : ∀k,w.cell? ((⟨g,0,none⟩:Addr).add k)=cur[k]?:=by
   intro k
   unfold Addr.add
   by_cases hk:k=0
   ·subst hk;simp[World.cell?,hbk]
   ·rw[if_neg hk];simp[World.cell?,hbk]
  refine⟨g,cap,by rw[hn],hg,hl,fun j b hj=>boxAt_five.2 fun i hi => ?_,fun o=>by simp[World.frozen?,hbk]⟩
  have hjl:j<ls.length:=(List.getElem?_eq_some_iff.1 hj).1
  have e1:=cellsOf_get hj hi
  rw[← ht,List.getElem?_take_of_lt (by omega)]at e1
  rw[add_more,← e1,hc?]
  simp
end Go.Proofs.YtjbfaaolfonmaaaGreat
namespace Go.Proofs.YtjbfaaolfonmaaaGreat
open Go Go.Sort Go.RowKit
theorem grown_bel {w0 w w1:World}{v:Value} (h:Below w0.heap.size w0 w) (g:w.grownBy w1 v.ownBlock) (hv:∀b,v.ownBlock=some b→w0.heap.size≤b):Below w0.heap.size w0 w1 :=
 ⟨g.os.trans h.os,g.tape.trans h.tape,g.output.trans h.output,Nat.le_trans h.size g.size,fun i hi=>(g.block i (Nat.lt_of_lt_of_le hi h.size) (fun e=>by have:=hv i e.symm;omega)).trans (h.block i hi)⟩
theorem box_info:∃i,(Tryz.prog.info? 140)=some i∧i.zero=some (.agg #[.int .i64 0,.int .i64 0,.int .i64 0,.int .i64 0,.int .i64 0])∧i.size=5∧i.bytes=40:=info_parts (by kernel_rfl)
theorem copy_cells {w:World}{a:Addr}{xs:List Value} (h:∀j u,xs[j]?=some u→w.cell? (a.add j)=some u) (o:Obj):∀j u,xs[j]?=some u→(w.alloc o).cell? (a.add j)=some u:=fun j u hj =>
 (Below.cell (p:=a.add j) ((Below.refl w.heap.size w).alloc (Nat.le_refl _) _) (World.block_lt_of_cell? w _ (h j u hj))).trans (h j u hj)
def Copied (ls:List Box) (n:Nat) (w:World) (E:Ending) (w':World):Prop:=∃g c,E = .returned (.slice (some ⟨g,0,none⟩) n c)∧OwnBox ls w.heap.size g w'∧Below w.heap.size w w'
theorem copied_of {ls:List Box}{n:Nat}{w w1:World}{v':Value} (hown:w1.ownsRow w.heap.size 140 5 v' n (cellsOf ls)) (hgrow:(w.alloc (.cells #[] 140)).grownBy w1 (Value.slice (some ⟨w.heap.size,0,none⟩) 0 0).ownBlock)
  (hnil:¬v' = .slice none 0 0) (hN:ls.length=n):Copied ls n w (.returned v') w1:=by
 subst hN
 obtain⟨g,c,rfl,ho⟩:=own_boxes hown hnil
 exact⟨g,c,rfl,ho,grown_bel (w0:=w) blw hgrow (fun b hb=>by cases hb;exact Nat.le_refl _)⟩
set_option maxHeartbeats 1000000 in
theorem copy_any (a:Addr) (ls:List Box) (cap:Nat) (w:World) (hr:Row (some a) ls w) (hn:ls.length≤1000) :
  Calls Tryz.prog 18 #[.slice (some a) ls.length cap] w fun E w'=>Copied ls ls.length w E w':=by
 have hc:=hr.cells
 obtain⟨i,hi,hz0,hz1,hz2⟩:=box_info
 have hl:=cellsOf_len ls
 have b1:0+ls.length≤maxLen:=by unfold maxLen;omega
 have b2:(0+ls.length)*40≤140737488355328:=by omega
 have b3:w.heap.size≤(w.alloc (.cells #[] 140)).heap.size:=by simp
 clear hr hn
 generalize hN:ls.length=n at *
 have H:=Lib.hid (And.intro hl (And.intro b1 (And.intro b2 b3)))
 clear hl b1 b2 b3
 go_enter Tryz.func18,Tryz.ntmps18
 go_wp2_with (at_builtin;refine wpList_append_own _ rfl _ _ 26 rfl w.heap.size 140 i _ 5 40 Tryz.underlying26 hi hz0 hz1 hz2 rfl (by decide) _ 0 [] rfl (World.ownsRow_made w #[] 0 (Nat.le_refl _) (by decide) rfl) a n cap (cellsOf ls) rfl H.out.1 (copy_cells hc _) (cellsOf_one ls) H.out.2.1 H.out.2.2.1 H.out.2.2.2 ?_)
 intro v' w1 hown hgrow hnil
 have K:=Lib.hid (copied_of hown hgrow hnil hN)
 clear hown hgrow hnil hc hi hz0 hz1 hz2 H hN
 go_wp2
 refine bodyPost_ret (by simp[results,Tryz.results18,go_sem, *];first|done|rfl) rfl ?_
 exact K.out
@[go_sem high] theorem run_nil_eq (a:Addr) (n cap:Nat) (w:World):(binOp .eql 143 (.slice (some a) n cap) (.slice none 0 0)).run Tryz.prog w = .ok (.bool false) w:=by kernel_rfl
set_option maxHeartbeats 1000000 in
theorem clone_any (a:Addr) (ls:List Box) (cap:Nat) (w:World) (hr:Row (some a) ls w) (hn:ls.length≤1000) :
  Calls Tryz.prog 117 #[.slice (some a) ls.length cap] w fun E w'=>Copied ls ls.length w E w':=by
 have hc:=hr.cells
 obtain⟨i,hi,hz0,hz1,hz2⟩:=box_info
 have hl:=cellsOf_len ls
 have b1:0+ls.length≤maxLen:=by unfold maxLen;omega
 have b2:(0+ls.length)*40≤140737488355328:=by omega
 have b3:w.heap.size≤(w.alloc (.cells #[] 140)).heap.size:=by simp
 clear hr hn
 generalize hN:ls.length=n at *
 have H:=Lib.hid (And.intro hl (And.intro b1 (And.intro b2 b3)))
 clear hl b1 b2 b3
 go_enter Tryz.func117,Tryz.ntmps117
 go_wp2_with (at_builtin;refine wpList_append_own _ rfl _ _ 143 rfl w.heap.size 140 i _ 5 40 Tryz.underlying143 hi hz0 hz1 hz2 rfl (by decide) _ 0 [] rfl (World.ownsRow_made w #[] 0 (Nat.le_refl _) (by decide) rfl) a n cap (cellsOf ls) rfl H.out.1 (copy_cells hc _) (cellsOf_one ls) H.out.2.1 H.out.2.2.1 H.out.2.2.2 ?_)
 intro v' w1 hown hgrow hnil
 have K:=Lib.hid (copied_of hown hgrow hnil hN)
 clear hown hgrow hnil hc hi hz0 hz1 hz2 H hN
 go_wp2
 refine bodyPost_ret (by simp[results,Tryz.results117,go_sem, *];first|done|rfl) rfl ?_
 exact K.out
end Go.Proofs.YtjbfaaolfonmaaaGreat
namespace Go.Proofs.YtjbfaaolfonmaaaGreat
open Go Go.Sort Go.RowKit
@[go_sem high] theorem run_par0 (a b c d:Value) (w:World):(Instr.index 160 (.agg #[a,b,c,d]) (.int .i64 0)).run Tryz.prog w = .ok (.agg #[a,b]) w:=by kernel_rfl
@[go_sem high] theorem run_par1 (a b c d:Value) (w:World):(Instr.index 160 (.agg #[a,b,c,d]) (.int .i64 1)).run Tryz.prog w = .ok (.agg #[c,d]) w:=by kernel_rfl
def blockOf (a:Act) (i:Nat):Nat:=match a.eval (.tmp i)with | .pointer (some p)=>p.block|_=>0
theorem wp_cut2 {P:Program}{c:Code}{Q:Exit→Act→World→Prop}{a:Act}{w:World} (F:Nat→Nat→Act→Act) (i j:Nat) (cs ds:Array Value)
  (h1:c.wp P (fun e a' w'=>e = .normal∧∀b0 b1,blockOf a' i=b0→blockOf a' j=b1→a'=F b0 b1 a∧NewVar w b0 cs w'∧NewVar w b1 ds w'∧b0≠b1) a w)
  (h2:∀B0 B1 w',NewVar w B0 cs w'→NewVar w B1 ds w'→B0≠B1→Q .normal (F B0 B1 a) w'):c.wp P Q a w :=
 Code.wp_mono (fun e a' w' h=>by obtain⟨rfl,h⟩:=h;obtain⟨e,k0,k1,k2⟩:=h _ _ rfl rfl;rw[e];exact h2 _ _ w' k0 k1 k2) h1
theorem own_lt {w:World}{base:Nat}{e:TypeId}{v:Value}{n:Nat}{xs:List Value} (h:w.ownsRow base e 1 v n xs){b:Nat} (hb:v.ownBlock=some b):base≤b∧b<w.heap.size:=by
 rcases h.2 with⟨rfl,_⟩|⟨g,cap,cur,rfl,hg,hbk,_⟩
 ·cases hb
 ·cases hb
  refine⟨hg,?_⟩
  rcases Nat.lt_or_ge g w.heap.size with h|h
  ·exact h
  ·rw[Array.getElem?_eq_none h]at hbk;cases hbk
theorem Rows2.nil {w:World} : Rows2 w (.slice none 0 0) (.slice none 0 0) 0 0 [] [] w :=
 ⟨World.ownsRow_nil _ _ _ _,World.ownsRow_nil _ _ _ _,(fun b h _=>by cases h),Below.refl _ _⟩
theorem Rows2.addLow {w0 w w1:World}{L H L' x:Value}{n m:Nat}{xs ys:List Value}{t:TypeId} (R:Rows2 w0 L H n m xs ys w) (h:w1.ownsRow w0.heap.size 3 1 L' (n+1) (xs ++ [x]))
  (g:(w.alloc (.cells #[x] t)).grownBy w1 L.ownBlock) (hb:L'.ownBlock=L.ownBlock∨L'.ownBlock=some (w.alloc (.cells #[x] t)).heap.size):Rows2 w0 L' H (n+1) m (xs ++ [x]) ys w1:=by
 have hb0:Below w0.heap.size w0 (w.alloc (.cells #[x] t)):=R.below.alloc R.below.size _
 refine⟨h,(R.high.alloc _).kept g ?_,fun b h1 h2 => ?_,grown_bel hb0 g fun b hb=>(own_lt R.low hb).1⟩
 ·cases hH:H.ownBlock with
  | none=>exact .inl rfl
  | some b=>exact .inr fun e=>R.apart b e.symm hH
 ·rcases hb with hb|hb
  ·exact R.apart b (hb▸h1) h2
  ·rw[hb]at h1
   have:=(own_lt R.high h2).2
   simp at h1
   omega
theorem Rows2.addHigh {w0 w w1:World}{L H H' x:Value}{n m:Nat}{xs ys:List Value}{t:TypeId} (R:Rows2 w0 L H n m xs ys w) (h:w1.ownsRow w0.heap.size 3 1 H' (m+1) (ys ++ [x]))
  (g:(w.alloc (.cells #[x] t)).grownBy w1 H.ownBlock) (hb:H'.ownBlock=H.ownBlock∨H'.ownBlock=some (w.alloc (.cells #[x] t)).heap.size):Rows2 w0 L H' n (m+1) xs (ys ++ [x]) w1:=by
 have hb0:Below w0.heap.size w0 (w.alloc (.cells #[x] t)):=R.below.alloc R.below.size _
 refine⟨(R.low.alloc _).kept g ?_,h,fun b h1 h2 => ?_,grown_bel hb0 g fun b hb=>(own_lt R.high hb).1⟩
 ·cases hL:L.ownBlock with
  | none=>exact .inl rfl
  | some b=>exact .inr fun e=>R.apart b hL e.symm
 ·rcases hb with hb|hb
  ·exact R.apart b h1 (hb▸h2)
  ·rw[hb]at h2
   have:=(own_lt R.low h1).2
   simp at h2
   omega
theorem int_row:∃i,(Tryz.prog.info? 3)=some i∧i.zero=some (.int .i64 0)∧i.size=1∧i.bytes=8:=info_parts (by kernel_rfl)
theorem one_cell (x:Int):∀u ∈ [Value.int .i64 x],u.oneCell'=true:=by intro u hu;simp at hu;subst hu;rfl
theorem wpList_mark {P:Program}{ops:Array Oper}{Q:Exit→Act→World→Prop}{l:List Oper}{a:Act}{w:World} (h:Marked (wpList P ops Q l a w)):wpList P ops Q l a w:=h
theorem smin_to (g cap:Nat) (a b c d x:Int) (w:World) (hx:min (min (min a b) c) d=x) (h:∀j v,[Value.int .i64 a,.int .i64 b,.int .i64 c,.int .i64 d][j]?=some v→w.cell? ⟨g,j,none⟩=some v) :
  Calls Tryz.prog 134 #[.slice (some ⟨g,0,none⟩) 4 cap] w fun E w'=>E = .returned (.int .i64 x)∧w'=w:=by
 subst hx
 exact smin_any g cap a b c d w (h 0 _ rfl) (h 1 _ rfl) (h 2 _ rfl) (h 3 _ rfl)
theorem smax_to (g cap:Nat) (a b c d x:Int) (w:World) (hx:max (max (max a b) c) d=x) (h:∀j v,[Value.int .i64 a,.int .i64 b,.int .i64 c,.int .i64 d][j]?=some v→w.cell? ⟨g,j,none⟩=some v) :
  Calls Tryz.prog 135 #[.slice (some ⟨g,0,none⟩) 4 cap] w fun E w'=>E = .returned (.int .i64 x)∧w'=w:=by
 subst hx
 exact smax_any g cap a b c d w (h 0 _ rfl) (h 1 _ rfl) (h 2 _ rfl) (h 3 _ rfl)
@[irreducible] def loC (lo hi A B:Int):Int:=min (min (min (-2*lo*1048576/A) (-2*lo*1048576/B)) (-2*hi*1048576/A)) (-2*hi*1048576/B)
@[irreducible] def hiC (lo hi A B:Int):Int:=max (max (max (cdv (-2*lo*1048576) A) (cdv (-2*lo*1048576) B)) (cdv (-2*hi*1048576) A)) (cdv (-2*hi*1048576) B)
@[irreducible] def loN (a c:Int):Int:=(a-c)*1048576/(a+c)
@[irreducible] def hiN (a c:Int):Int:=cdv ((a-c)*1048576) (a+c)
end Go.Proofs.YtjbfaaolfonmaaaGreat
namespace Go.Proofs.YtjbfaaolfonmaaaGreat
open Go.RowKit
@[irreducible] def enL (x y r:Int):Int:=max 0 (rt (x*x+y*y)-r)*max 0 (rt (x*x+y*y)-r)/1048576
@[irreducible] def enH (x y r:Int):Int := -(-((rtu (x*x+y*y)+r)*(rtu (x*x+y*y)+r))/1048576)
theorem en_bd {x y r:Int} (h:Right x y r):0≤max 0 (rt (x*x+y*y)-r)∧max 0 (rt (x*x+y*y)-r)≤1073741824∧0≤rtu (x*x+y*y)+r∧rtu (x*x+y*y)+r≤1073741824:=by
 have q:=h.sh.1.sq h.sh.2
 have b:=rtu_bounds (n:=x*x+y*y)
 have t0:=rt_nonneg (x*x+y*y)
 have t1:=rt_le (n:=x*x+y*y) (b:=759250125) q.1 (by omega) (by omega) (by omega)
 have:=h.2
 omega
set_option maxHeartbeats 1000000 in
theorem Energy_yes (x y r:Int) (w:World) (h:Right x y r) :
  Calls Tryz.prog 128 #[.agg #[.complex .f64 (fl x) (fl y),.int .i64 r]] w fun e w'=>e = .returned (.tuple #[.agg #[.int .i64 (enL x y r),.int .i64 (enH x y r)],.int .i64 0])∧Below w.heap.size w w':=by
 have e1:enL x y r=max 0 (rt (x*x+y*y)-r)*max 0 (rt (x*x+y*y)-r)/1048576:=by unfold enL;rfl
 have e2:enH x y r = -(-((rtu (x*x+y*y)+r)*(rtu (x*x+y*y)+r))/1048576):=by unfold enH;rfl
 have bd:=en_bd h
 have c:=fun w=>sizes_any x y r w h.sh.1 h.sh.2 h.2.1 h.2.2
 rw[e1,e2]
 clear e1 e2
 obtain⟨L,hL⟩:∃L,max 0 (rt (x*x+y*y)-r)=L:=⟨_,rfl⟩
 obtain⟨U,hU⟩:∃U,rtu (x*x+y*y)+r=U:=⟨_,rfl⟩
 rw[hL,hU]at c bd ⊢
 obtain⟨b1,b2,b3,b4⟩:=bd
 have C:=Lib.hid c
 have RY:=Lib.hid (fun w=>read_yes x y r w h.1 h.2.1 h.2.2)
 have m1:=mul_bd b1 b2 b1 b2
 have m2:=mul_bd b3 b4 b3 b4
 have CF:=Lib.hid (fun w=>floor_any (L*L) 1048576 w (by omega) (by omega) (by omega) (by omega))
 have CC:=Lib.hid (fun w=>ceil_any (U*U) 1048576 w (by omega) (by omega) (by omega) (by omega))
 clear hL hU c h
 go_enter Tryz.func128,Tryz.ntmps128
 go_wp2_with fail
 refine(RY.out _).mono ?_
 rintro e w1 ⟨rfl,A0⟩
 have A7:=A0.size
 (try simp at A7)
 have A2:=bl5 A0 (w.heap.size+1)
 go_wp2_with fail
 refine(C.out _).mono ?_
 rintro e w2 ⟨rfl,A6⟩
 have Ae:=A6.size
 (try simp at Ae)
 have A3:=bl5 A6 (w.heap.size+1)
 go_wp2_with fail
 refine calm 13 (by kernel_rfl) (by kernel_rfl) fun hG => ?_
 have A1:=hG (w.heap.size+1) lto
 have Ad:=hG (w2.heap.size) lto
 clear hG
 simp only[List.take_succ_cons,List.take_zero,List.drop_succ_cons,List.drop_zero]
 repeat (go_big_quiet_step (first|(go_at_call 162;with_reducible exact calm_same CF.out)|(go_at_call 163;with_reducible exact calm_same CC.out)))
 refine wpQuiet_nil ?_
 intro w3 A5
 clear A1 Ad
 have Af:=A5.size
 (try simp at Af)
 have A4:=bl5 A5 (w.heap.size+1)
 have Ag:=bl5 A5 (w2.heap.size)
 go_wp2
 refine bodyPost_ret (by simp[results,Tryz.results128,go_sem, *];first|done|rfl) rfl ?_
 exact⟨rfl,blw⟩
end Go.Proofs.YtjbfaaolfonmaaaGreat
