/- Joined: FitLeaf FitCheck FitErr BoxRow BoxCopy Rows2 Energy. -/
import Derived.Test.YticobgianbecpaaGreatDoorKMed
import Derived.OwnWalk
import Derived.Maps.AppendAt
import Derived.Test.YticobgianbecpaaGreatDoorKCalm
import Derived.Maps.OwnRows
import Derived.Test.YticobgianbecpaaGreatDoorKLight
namespace Go.Proofs.YticobgianbecpaaGreatDoor
open Go Go.Sort Go.RowKit
@[irreducible] def cdv (n b:Int):Int := -(-n/b)
@[irreducible] def clamp (n:Int):Int:=max (-1048576) (min 1048576 n)
@[go_sem high] theorem run_two0 (a b:Value) (w:World):(Instr.index 249 (.agg #[a,b]) (.int .i64 0)).run Tryz.prog w = .ok a w:=by kernel_rfl
@[go_sem high] theorem run_two1 (a b:Value) (w:World):(Instr.index 249 (.agg #[a,b]) (.int .i64 1)).run Tryz.prog w = .ok b w:=by kernel_rfl
theorem own_cells {w:World}{base:Nat}{e:TypeId}{v:Value}{n:Nat}{xs:List Value} (h:w.ownsRow base e 1 v n xs) (hn:0<n) :
  ∃g cap,v = .slice (some ⟨g,0,none⟩) n cap∧base≤g∧g<w.heap.size∧∀j x,xs[j]?=some x→w.cell? ⟨g,j,none⟩=some x:=by
 obtain⟨hx,h2⟩:=h
 rcases h2 with⟨_,h0⟩|⟨g,cap,cur,rfl,hg,hbk,hc,_,hsz,ht⟩
 ·omega
 ·have hl:g<w.heap.size:=by
   rcases Nat.lt_or_ge g w.heap.size with h|h
   ·exact h
   ·rw[Array.getElem?_eq_none h]at hbk;cases hbk
  refine⟨g,cap,rfl,hg,hl,fun j x hj => ?_⟩
  have hjl:j<n:=by
   rcases Nat.lt_or_ge j n with h|h
   ·exact h
   ·rw[List.getElem?_eq_none (by omega)]at hj;cases hj
  have e1:(cur.toList.take (n*1))[j]?=some x:=by rw[ht];exact hj
  rw[List.getElem?_take_of_lt (by omega)]at e1
  simp[World.cell?,hbk]
  simpa using e1
theorem new_fst (W:World) (cs ds:Array Value) (t s:TypeId):NewVar W W.heap.size cs (((W.alloc (.cells cs t)).alloc (.cells ds s)).drew):=(newVar_alloc (Below.refl _ _)).later blw
theorem new_snd (W:World) (cs ds:Array Value) (t s:TypeId):NewVar W (W.heap.size+1) ds (((W.alloc (.cells cs t)).alloc (.cells ds s)).drew):=by
 have h:=newVar_alloc (W:=W) (w:=W.alloc (.cells cs t)) (cs:=ds) (t:=s) blw
 simp at h
 exact h.later blw
structure Rows2 (w0:World) (L H:Value) (n m:Nat) (xs ys:List Value) (w:World):Prop where
 low:w.ownsRow w0.heap.size 3 1 L n xs
 high:w.ownsRow w0.heap.size 3 1 H m ys
 apart:∀b,L.ownBlock=some b→H.ownBlock=some b→False
 below:Below w0.heap.size w0 w
end Go.Proofs.YticobgianbecpaaGreatDoor
namespace Go.Proofs.YticobgianbecpaaGreatDoor
open Go Go.Sort Go.RowKit
@[irreducible] def inR (n lo hi:Int):Bool:=decide (lo≤n)&&decide (n≤hi)
theorem inR_yes {n lo hi:Int} : inR n lo hi=true↔lo≤n∧n≤hi:=by unfold inR;simp
theorem inR_no {n lo hi:Int} : inR n lo hi=false↔¬(lo≤n∧n≤hi):=by
 rw[← inR_yes];simp
theorem r7within_is (n lo hi:Int) (t:Bool) (w:World) (h:inR n lo hi=t):Calls Tryz.prog 14 #[.int .i64 n,.int .i64 lo,.int .i64 hi] w fun e w'=>e = .returned (.bool t)∧w'=w:=by
 subst h
 by_cases h1:lo≤n
 ·by_cases h2:n≤hi
  ·rw[inR_yes.2 ⟨h1,h2⟩]
   go_enter Tryz.func14,Tryz.ntmps14
   go_wp2
   go_ret
   exact⟨rfl,rfl⟩
  ·rw[inR_no.2 (fun h=>h2 h.2)]
   go_enter Tryz.func14,Tryz.ntmps14
   go_wp2
   go_ret
   exact⟨rfl,rfl⟩
 ·rw[inR_no.2 (fun h=>h1 h.1)]
  go_enter Tryz.func14,Tryz.ntmps14
  go_wp2
  go_ret
  exact⟨rfl,rfl⟩
@[irreducible] def boxQ (b:Box):Int :=
 if inR b.il 5000 80000=true∧inR b.ih 5000 80000=true∧inR b.tl 0 1000000=true∧inR b.th 0 1000000=true∧inR b.lo 0 80000=true then(if b.ih<b.il∨b.th<b.tl then 10 else 0)else 2
theorem boxQ_range {b:Box} (h:¬(inR b.il 5000 80000=true∧inR b.ih 5000 80000=true∧inR b.tl 0 1000000=true∧inR b.th 0 1000000=true∧inR b.lo 0 80000=true)):boxQ b=2:=by unfold boxQ;rw[if_neg h]
theorem boxQ_order {b:Box} (h:inR b.il 5000 80000=true∧inR b.ih 5000 80000=true∧inR b.tl 0 1000000=true∧inR b.th 0 1000000=true∧inR b.lo 0 80000=true) (h2:b.ih<b.il∨b.th<b.tl):boxQ b=10:=by unfold boxQ;rw[if_pos h,if_pos h2]
theorem boxQ_ok {b:Box} (h:inR b.il 5000 80000=true∧inR b.ih 5000 80000=true∧inR b.tl 0 1000000=true∧inR b.th 0 1000000=true∧inR b.lo 0 80000=true) (h2:¬(b.ih<b.il∨b.th<b.tl)):boxQ b=0:=by unfold boxQ;rw[if_pos h,if_neg h2]
theorem boxQ_zero {b:Box} : boxQ b=0↔BoxOk b:=by
 constructor
 ·intro h
  unfold boxQ at h
  split at h
  ·rename_i c
   split at h
   ·exact absurd h (by decide)
   ·rename_i d
    simp only[inR_yes]at c
    exact⟨by omega,by omega,by omega,by omega,by omega,by omega,by omega,by omega⟩
  ·exact absurd h (by decide)
 ·rintro⟨h0,h1,h2,h3,h4,h5,h6,h7⟩
  exact boxQ_ok ⟨inR_yes.2 (by omega),inR_yes.2 (by omega),inR_yes.2 (by omega),inR_yes.2 (by omega),inR_yes.2 (by omega)⟩ (by omega)
def firstQ:List Box→Nat→Int × Int
 | [],_=>(0,0)
 | b::l,i=>if boxQ b=0 then firstQ l (i+1)else((i:Int),boxQ b)
@[irreducible] def checkI (ls:List Box):Int:=if ls.length=0 then 0 else if 6<ls.length then 0 else(firstQ ls 0).1
@[irreducible] def checkQ (ls:List Box):Int:=if ls.length=0 then 12 else if 6<ls.length then 8 else(firstQ ls 0).2
def HidF (ls:List Box) (T:Int × Int) (k:Nat):Prop:=firstQ (ls.drop k) k=T
theorem hidF_next {ls:List Box}{T:Int × Int}{k:Nat}{b:Box} (h:HidF ls T k) (hb:ls[k]?=some b) (h0:boxQ b=0):HidF ls T (k+1):=by
 obtain⟨hl,e⟩:=List.getElem?_eq_some_iff.1 hb
 unfold HidF at h ⊢
 rw[List.drop_eq_getElem_cons hl,e]at h
 simpa[firstQ,h0]using h
theorem hidF_bad {ls:List Box}{T:Int × Int}{k:Nat}{b:Box}{q:Int} (h:HidF ls T k) (hb:ls[k]?=some b) (h0:boxQ b=q) (hq:q≠0):T.1=k∧T.2=q:=by
 obtain⟨hl,e⟩:=List.getElem?_eq_some_iff.1 hb
 unfold HidF at h
 rw[List.drop_eq_getElem_cons hl,e]at h
 simp only[firstQ,h0,if_neg hq]at h
 rw[← h]
 exact⟨rfl,rfl⟩
theorem hidF_end {ls:List Box}{T:Int × Int}{k:Nat} (h:HidF ls T k) (hk:k=ls.length):T.1=0∧T.2=0:=by
 unfold HidF at h
 rw[List.drop_of_length_le (by omega)]at h
 rw[← h]
 exact⟨rfl,rfl⟩
theorem checkQ_zero {ls:List Box} (h:checkQ ls=0):(∀b∈ls,BoxOk b)∧1≤ls.length∧ls.length≤6:=by
 have aux:∀(l:List Box) (i:Nat),(firstQ l i).2=0→∀b∈l,BoxOk b:=by
  intro l
  induction l with
  | nil=>intro i _ b hb;cases hb
  | cons c l ih =>
   intro i h b hb
   by_cases h0:boxQ c=0
   ·simp only[firstQ,if_pos h0]at h
    rcases List.mem_cons.1 hb with rfl|hb
    ·exact boxQ_zero.1 h0
    ·exact ih _ h b hb
   ·simp only[firstQ,if_neg h0]at h
    exact absurd h h0
 unfold checkQ at h
 split at h
 ·exact absurd h (by decide)
 ·split at h
  ·exact absurd h (by decide)
  ·exact⟨aux _ _ h,by omega,by omega⟩
end Go.Proofs.YticobgianbecpaaGreatDoor
namespace Go.Proofs.YticobgianbecpaaGreatDoor
open Go Go.Sort Go.RowKit
@[irreducible] def setQ (wv ix si:Int):Int:=if inR wv 1000 200000=true∧inR ix 5000 80000=true∧inR si 0 9999=true then 0 else 2
@[irreducible] def onQ (oi ol:Int):Int:=if inR oi 5000 80000=true∧inR ol 0 80000=true then 0 else 2
theorem setQ_ok {wv ix si:Int} (h1:inR wv 1000 200000=true) (h2:inR ix 5000 80000=true) (h3:inR si 0 9999=true):setQ wv ix si=0:=by unfold setQ;rw[if_pos ⟨h1,h2,h3⟩]
theorem setQ_1 {wv ix si:Int} (h:inR wv 1000 200000=false):setQ wv ix si=2:=by unfold setQ;rw[if_neg (fun k=>by rw[h]at k;exact absurd k.1 (by decide))]
theorem setQ_2 {wv ix si:Int} (h:inR ix 5000 80000=false):setQ wv ix si=2:=by unfold setQ;rw[if_neg (fun k=>by rw[h]at k;exact absurd k.2.1 (by decide))]
theorem setQ_3 {wv ix si:Int} (h:inR si 0 9999=false):setQ wv ix si=2:=by unfold setQ;rw[if_neg (fun k=>by rw[h]at k;exact absurd k.2.2 (by decide))]
theorem setQ_zero {wv ix si:Int} (h:setQ wv ix si=0):(1000≤wv∧wv≤200000)∧(5000≤ix∧ix≤80000)∧(0≤si∧si≤9999):=by
 unfold setQ at h
 split at h
 ·rename_i c;exact⟨inR_yes.1 c.1,inR_yes.1 c.2.1,inR_yes.1 c.2.2⟩
 ·exact absurd h (by decide)
theorem onQ_ok {oi ol:Int} (h1:inR oi 5000 80000=true) (h2:inR ol 0 80000=true):onQ oi ol=0:=by unfold onQ;rw[if_pos ⟨h1,h2⟩]
theorem onQ_1 {oi ol:Int} (h:inR oi 5000 80000=false):onQ oi ol=2:=by unfold onQ;rw[if_neg (fun k=>by rw[h]at k;exact absurd k.1 (by decide))]
theorem onQ_2 {oi ol:Int} (h:inR ol 0 80000=false):onQ oi ol=2:=by unfold onQ;rw[if_neg (fun k=>by rw[h]at k;exact absurd k.2 (by decide))]
theorem onQ_zero {oi ol:Int} (h:onQ oi ol=0):(5000≤oi∧oi≤80000)∧(0≤ol∧ol≤80000):=by
 unfold onQ at h
 split at h
 ·rename_i c;exact⟨inR_yes.1 c.1,inR_yes.1 c.2⟩
 ·exact absurd h (by decide)
@[irreducible] def fst3 (a b c:Int):Int:=if a=0 then(if b=0 then c else b)else a
@[irreducible] def fst2 (a b:Int):Int:=if a=0 then b else a
theorem fst3_a {a b c:Int} (h:a≠0):fst3 a b c=a:=by unfold fst3;rw[if_neg h]
theorem fst3_b {b c:Int} (h:b≠0):fst3 0 b c=b:=by unfold fst3;rw[if_pos rfl,if_neg h]
theorem fst3_c {c:Int} : fst3 0 0 c=c:=by unfold fst3;rw[if_pos rfl,if_pos rfl]
theorem fst2_a {a b:Int} (h:a≠0):fst2 a b=a:=by unfold fst2;rw[if_neg h]
theorem fst2_b {b:Int} : fst2 0 b=b:=by unfold fst2;rw[if_pos rfl]
end Go.Proofs.YticobgianbecpaaGreatDoor
namespace Go.Proofs.YticobgianbecpaaGreatDoor
open Go Go.Sort Go.RowKit
def Box.five (b:Box):List Value := [.int .i64 b.il,.int .i64 b.ih,.int .i64 b.tl,.int .i64 b.th,.int .i64 b.lo]
def cellsOf (ls:List Box):List Value:=ls.flatMap Box.five
theorem cellsOf_len (ls:List Box):(cellsOf ls).length=ls.length*5:=by
 induction ls with
 | nil=>rfl
 | cons b l ih=>simp only[cellsOf,List.flatMap_cons,List.length_append,List.length_cons]at ih ⊢;rw[ih];simp[Box.five];omega
theorem cellsOf_get {ls:List Box}{j i:Nat}{b:Box} (h:ls[j]?=some b) (hi:i<5):(cellsOf ls)[j*5+i]?=b.five[i]?:=by
 induction ls generalizing j with
 | nil=>simp at h
 | cons c l ih =>
  simp only[cellsOf,List.flatMap_cons]at ih ⊢
  cases j with
  | zero =>
   simp at h
   subst h
   rw[List.getElem?_append_left (by simp[Box.five];omega)]
   simp
  | succ j =>
   rw[List.getElem?_append_right (by simp[Box.five];omega)]
   have:(j+1)*5+i-(c.five).length=j*5+i:=by simp[Box.five];omega
   rw[this]
   exact ih (by simpa using h)
theorem cellsOf_inv {ls:List Box}{k:Nat}{u:Value} (h:(cellsOf ls)[k]?=some u):∃b,ls[k/5]?=some b∧b.five[k%5]?=some u:=by
 have hk:k<ls.length*5:=by
  rw[← cellsOf_len]
  exact(List.getElem?_eq_some_iff.1 h).1
 have hj:k/5<ls.length:=by omega
 refine⟨ls[k/5],List.getElem?_eq_getElem hj,?_⟩
 have:=cellsOf_get (List.getElem?_eq_getElem hj) (show k%5<5 by omega)
 rw[← this,show k/5*5+k%5=k by omega]
 exact h
theorem cellsOf_one (ls:List Box):∀u∈cellsOf ls,u.oneCell'=true:=by
 intro u hu
 simp only[cellsOf,List.mem_flatMap,Box.five]at hu
 obtain⟨b,_,hu⟩:=hu
 simp at hu
 rcases hu with rfl|rfl|rfl|rfl|rfl<;>rfl
theorem add_more (a:Addr) (m n:Nat):(a.add m).add n=a.add (m+n):=by
 unfold Addr.add
 by_cases hm:m=0
 ·subst hm;simp
 ·by_cases hn:n=0
  ·subst hn;simp[hm]
  ·simp[hm,hn,Nat.add_assoc]
theorem boxAt_five {w:World}{a:Addr}{b:Box} : boxAt w a b↔∀i,i<5→w.cell? (a.add i)=b.five[i]?:=by
 constructor
 ·rintro⟨h0,h1,h2,h3,h4⟩ i hi
  match i,hi with
  | 0,_=>exact h0
  | 1,_=>exact h1
  | 2,_=>exact h2
  | 3,_=>exact h3
  | 4,_=>exact h4
 ·intro h
  exact⟨h 0 (by omega),h 1 (by omega),h 2 (by omega),h 3 (by omega),h 4 (by omega)⟩
theorem Row.cells {a:Addr}{ls:List Box}{w:World} (h:Row (some a) ls w):∀j u,(cellsOf ls)[j]?=some u→w.cell? (a.add j)=some u:=by
 intro j u hj
 obtain⟨b,hb,hu⟩:=cellsOf_inv hj
 obtain⟨a',ha,_,hE⟩:=h.get _ b hb
 cases ha
 have:=boxAt_five.1 hE (j%5) (by omega)
 rw[add_more,show j/5*5+j%5=j by omega,hu]at this
 exact this
structure OwnBox (ls:List Box) (N g:Nat) (w:World):Prop where
 lo:N≤g
 hi:g<w.heap.size
 at':∀j b,ls[j]?=some b→boxAt w ((⟨g,0,none⟩:Addr).add (j*5)) b
 free:∀o,w.frozen? ⟨g,o,none⟩=false
theorem OwnBox.row {ls:List Box}{N g:Nat}{w:World} (h:OwnBox ls N g w):Row (some ⟨g,0,none⟩) ls w :=
 ⟨fun j b hj=>⟨_,rfl,by rw[block_add];exact h.hi,h.at' j b hj⟩⟩
theorem own_boxes {w:World}{N:Nat}{v:Value}{n:Nat}{ls:List Box} (h:w.ownsRow N 52 5 v n (cellsOf ls)) (hv:v ≠ .slice none 0 0) :
  ∃g cap,v = .slice (some ⟨g,0,none⟩) ls.length cap∧OwnBox ls N g w:=by
 have hn:n=ls.length:=by have:=h.1;rw[cellsOf_len]at this;omega
 rcases h.2 with⟨h0,_⟩|⟨g,cap,cur,rfl,hg,hbk,hc,_,hsz,ht⟩
 ·exact absurd h0 hv
 ·have hl:g<w.heap.size:=by
   rcases Nat.lt_or_ge g w.heap.size with h|h
   ·exact h
   ·rw[Array.getElem?_eq_none h]at hbk;cases hbk
  have hc? : ∀k,w.cell? ((⟨g,0,none⟩:Addr).add k)=cur[k]?:=by
   intro k
   unfold Addr.add
   by_cases hk:k=0
   ·subst hk;simp[World.cell?,hbk]
   ·rw[if_neg hk];simp[World.cell?,hbk]
  refine⟨g,cap,by rw[hn],hg,hl,fun j b hj=>boxAt_five.2 fun i hi => ?_,fun o=>by simp[World.frozen?,hbk]⟩
  have hjl:j<ls.length:=(List.getElem?_eq_some_iff.1 hj).1
  have e1:=cellsOf_get hj hi
  rw[← ht,List.getElem?_take_of_lt (by omega)]at e1
  rw[add_more,← e1,hc?]
  simp
end Go.Proofs.YticobgianbecpaaGreatDoor
namespace Go.Proofs.YticobgianbecpaaGreatDoor
open Go Go.Sort Go.RowKit
theorem grown_bel {w0 w w1:World}{v:Value} (h:Below w0.heap.size w0 w) (g:w.grownBy w1 v.ownBlock) (hv:∀b,v.ownBlock=some b→w0.heap.size≤b):Below w0.heap.size w0 w1 :=
 ⟨g.os.trans h.os,g.tape.trans h.tape,g.output.trans h.output,Nat.le_trans h.size g.size,fun i hi=>(g.block i (Nat.lt_of_lt_of_le hi h.size) (fun e=>by have:=hv i e.symm;omega)).trans (h.block i hi)⟩
theorem box_info:∃i,(Tryz.prog.info? 52)=some i∧i.zero=some (.agg #[.int .i64 0,.int .i64 0,.int .i64 0,.int .i64 0,.int .i64 0])∧i.size=5∧i.bytes=40:=info_parts (by kernel_rfl)
theorem copy_cells {w:World}{a:Addr}{xs:List Value} (h:∀j u,xs[j]?=some u→w.cell? (a.add j)=some u) (o:Obj):∀j u,xs[j]?=some u→(w.alloc o).cell? (a.add j)=some u:=fun j u hj =>
 (Below.cell (p:=a.add j) ((Below.refl w.heap.size w).alloc (Nat.le_refl _) _) (World.block_lt_of_cell? w _ (h j u hj))).trans (h j u hj)
def Copied (ls:List Box) (n:Nat) (w:World) (E:Ending) (w':World):Prop:=∃g c,E = .returned (.slice (some ⟨g,0,none⟩) n c)∧OwnBox ls w.heap.size g w'∧Below w.heap.size w w'
theorem copied_of {ls:List Box}{n:Nat}{w w1:World}{v':Value} (hown:w1.ownsRow w.heap.size 52 5 v' n (cellsOf ls)) (hgrow:(w.alloc (.cells #[] 52)).grownBy w1 (Value.slice (some ⟨w.heap.size,0,none⟩) 0 0).ownBlock)
  (hnil:¬v' = .slice none 0 0) (hN:ls.length=n):Copied ls n w (.returned v') w1:=by
 subst hN
 obtain⟨g,c,rfl,ho⟩:=own_boxes hown hnil
 exact⟨g,c,rfl,ho,grown_bel (w0:=w) blw hgrow (fun b hb=>by cases hb;exact Nat.le_refl _)⟩
set_option maxHeartbeats 1000000 in
theorem copy_any (a:Addr) (ls:List Box) (cap:Nat) (w:World) (hr:Row (some a) ls w) (hn:ls.length≤1000) :
  Calls Tryz.prog 47 #[.slice (some a) ls.length cap] w fun E w'=>Copied ls ls.length w E w':=by
 have hc:=hr.cells
 obtain⟨i,hi,hz0,hz1,hz2⟩:=box_info
 have hl:=cellsOf_len ls
 have b1:0+ls.length≤maxLen:=by unfold maxLen;omega
 have b2:(0+ls.length)*40≤140737488355328:=by omega
 have b3:w.heap.size≤(w.alloc (.cells #[] 52)).heap.size:=by simp
 clear hr hn
 generalize hN:ls.length=n at *
 have H:=Lib.hid (And.intro hl (And.intro b1 (And.intro b2 b3)))
 clear hl b1 b2 b3
 go_enter Tryz.func47,Tryz.ntmps47
 go_wp2_with (at_builtin;refine wpList_append_own _ rfl _ _ 24 rfl w.heap.size 52 i _ 5 40 Tryz.underlying24 hi hz0 hz1 hz2 rfl (by decide) _ 0 [] rfl (World.ownsRow_made w #[] 0 (Nat.le_refl _) (by decide) rfl) a n cap (cellsOf ls) rfl H.out.1 (copy_cells hc _) (cellsOf_one ls) H.out.2.1 H.out.2.2.1 H.out.2.2.2 ?_)
 intro v' w1 hown hgrow hnil
 have K:=Lib.hid (copied_of hown hgrow hnil hN)
 clear hown hgrow hnil hc hi hz0 hz1 hz2 H hN
 go_wp2
 refine bodyPost_ret (by simp[results,Tryz.results47,go_sem, *];first|done|rfl) rfl ?_
 exact K.out
end Go.Proofs.YticobgianbecpaaGreatDoor
namespace Go.Proofs.YticobgianbecpaaGreatDoor
open Go Go.Sort Go.RowKit
@[go_sem high] theorem run_par0 (a b c d:Value) (w:World):(Instr.index 88 (.agg #[a,b,c,d]) (.int .i64 0)).run Tryz.prog w = .ok (.agg #[a,b]) w:=by kernel_rfl
@[go_sem high] theorem run_par1 (a b c d:Value) (w:World):(Instr.index 88 (.agg #[a,b,c,d]) (.int .i64 1)).run Tryz.prog w = .ok (.agg #[c,d]) w:=by kernel_rfl
def blockOf (a:Act) (i:Nat):Nat:=match a.eval (.tmp i)with | .pointer (some p)=>p.block|_=>0
theorem wp_cut2 {P:Program}{c:Code}{Q:Exit→Act→World→Prop}{a:Act}{w:World} (F:Nat→Nat→Act→Act) (i j:Nat) (cs ds:Array Value)
  (h1:c.wp P (fun e a' w'=>e = .normal∧∀b0 b1,blockOf a' i=b0→blockOf a' j=b1→a'=F b0 b1 a∧NewVar w b0 cs w'∧NewVar w b1 ds w'∧b0≠b1) a w)
  (h2:∀B0 B1 w',NewVar w B0 cs w'→NewVar w B1 ds w'→B0≠B1→Q .normal (F B0 B1 a) w'):c.wp P Q a w :=
 Code.wp_mono (fun e a' w' h=>by obtain⟨rfl,h⟩:=h;obtain⟨e,k0,k1,k2⟩:=h _ _ rfl rfl;rw[e];exact h2 _ _ w' k0 k1 k2) h1
theorem own_lt {w:World}{base:Nat}{e:TypeId}{v:Value}{n:Nat}{xs:List Value} (h:w.ownsRow base e 1 v n xs){b:Nat} (hb:v.ownBlock=some b):base≤b∧b<w.heap.size:=by
 rcases h.2 with⟨rfl,_⟩|⟨g,cap,cur,rfl,hg,hbk,_⟩
 ·cases hb
 ·cases hb
  refine⟨hg,?_⟩
  rcases Nat.lt_or_ge g w.heap.size with h|h
  ·exact h
  ·rw[Array.getElem?_eq_none h]at hbk;cases hbk
theorem Rows2.nil {w:World} : Rows2 w (.slice none 0 0) (.slice none 0 0) 0 0 [] [] w :=
 ⟨World.ownsRow_nil _ _ _ _,World.ownsRow_nil _ _ _ _,(fun b h _=>by cases h),Below.refl _ _⟩
theorem Rows2.addLow {w0 w w1:World}{L H L' x:Value}{n m:Nat}{xs ys:List Value}{t:TypeId} (R:Rows2 w0 L H n m xs ys w) (h:w1.ownsRow w0.heap.size 3 1 L' (n+1) (xs ++ [x]))
  (g:(w.alloc (.cells #[x] t)).grownBy w1 L.ownBlock) (hb:L'.ownBlock=L.ownBlock∨L'.ownBlock=some (w.alloc (.cells #[x] t)).heap.size):Rows2 w0 L' H (n+1) m (xs ++ [x]) ys w1:=by
 have hb0:Below w0.heap.size w0 (w.alloc (.cells #[x] t)):=R.below.alloc R.below.size _
 refine⟨h,(R.high.alloc _).kept g ?_,fun b h1 h2 => ?_,grown_bel hb0 g fun b hb=>(own_lt R.low hb).1⟩
 ·cases hH:H.ownBlock with
  | none=>exact .inl rfl
  | some b=>exact .inr fun e=>R.apart b e.symm hH
 ·rcases hb with hb|hb
  ·exact R.apart b (hb▸h1) h2
  ·rw[hb]at h1
   have:=(own_lt R.high h2).2
   simp at h1
   omega
theorem Rows2.addHigh {w0 w w1:World}{L H H' x:Value}{n m:Nat}{xs ys:List Value}{t:TypeId} (R:Rows2 w0 L H n m xs ys w) (h:w1.ownsRow w0.heap.size 3 1 H' (m+1) (ys ++ [x]))
  (g:(w.alloc (.cells #[x] t)).grownBy w1 H.ownBlock) (hb:H'.ownBlock=H.ownBlock∨H'.ownBlock=some (w.alloc (.cells #[x] t)).heap.size):Rows2 w0 L H' n (m+1) xs (ys ++ [x]) w1:=by
 have hb0:Below w0.heap.size w0 (w.alloc (.cells #[x] t)):=R.below.alloc R.below.size _
 refine⟨(R.low.alloc _).kept g ?_,h,fun b h1 h2 => ?_,grown_bel hb0 g fun b hb=>(own_lt R.high hb).1⟩
 ·cases hL:L.ownBlock with
  | none=>exact .inl rfl
  | some b=>exact .inr fun e=>R.apart b hL e.symm
 ·rcases hb with hb|hb
  ·exact R.apart b h1 (hb▸h2)
  ·rw[hb]at h2
   have:=(own_lt R.low h1).2
   simp at h2
   omega
theorem int_row:∃i,(Tryz.prog.info? 3)=some i∧i.zero=some (.int .i64 0)∧i.size=1∧i.bytes=8:=info_parts (by kernel_rfl)
theorem one_cell (x:Int):∀u ∈ [Value.int .i64 x],u.oneCell'=true:=by intro u hu;simp at hu;subst hu;rfl
theorem wpList_mark {P:Program}{ops:Array Oper}{Q:Exit→Act→World→Prop}{l:List Oper}{a:Act}{w:World} (h:Marked (wpList P ops Q l a w)):wpList P ops Q l a w:=h
@[irreducible] def loC (lo hi A B:Int):Int:=min (min (min (-2*lo*1048576/A) (-2*lo*1048576/B)) (-2*hi*1048576/A)) (-2*hi*1048576/B)
@[irreducible] def hiC (lo hi A B:Int):Int:=max (max (max (cdv (-2*lo*1048576) A) (cdv (-2*lo*1048576) B)) (cdv (-2*hi*1048576) A)) (cdv (-2*hi*1048576) B)
@[irreducible] def loN (a c:Int):Int:=(a-c)*1048576/(a+c)
@[irreducible] def hiN (a c:Int):Int:=cdv ((a-c)*1048576) (a+c)
end Go.Proofs.YticobgianbecpaaGreatDoor
namespace Go.Proofs.YticobgianbecpaaGreatDoor
open Go.RowKit
@[irreducible] def enL (x y r:Int):Int:=max 0 (rt (x*x+y*y)-r)*max 0 (rt (x*x+y*y)-r)/1048576
@[irreducible] def enH (x y r:Int):Int := -(-((rtu (x*x+y*y)+r)*(rtu (x*x+y*y)+r))/1048576)
theorem en_bd {x y r:Int} (h:Right x y r):0≤max 0 (rt (x*x+y*y)-r)∧max 0 (rt (x*x+y*y)-r)≤1073741824∧0≤rtu (x*x+y*y)+r∧rtu (x*x+y*y)+r≤1073741824:=by
 have q:=h.sh.1.sq h.sh.2
 have b:=rtu_bounds (n:=x*x+y*y)
 have t0:=rt_nonneg (x*x+y*y)
 have t1:=rt_le (n:=x*x+y*y) (b:=759250125) q.1 (by omega) (by omega) (by omega)
 have:=h.2
 omega
set_option maxHeartbeats 1000000 in
theorem Energy_yes (x y r:Int) (w:World) (h:Right x y r) :
  Calls Tryz.prog 40 #[.agg #[.complex .f64 (fl x) (fl y),.int .i64 r]] w fun e w'=>e = .returned (.tuple #[.agg #[.int .i64 (enL x y r),.int .i64 (enH x y r)],.int .i64 0])∧Below w.heap.size w w':=by
 have e1:enL x y r=max 0 (rt (x*x+y*y)-r)*max 0 (rt (x*x+y*y)-r)/1048576:=by unfold enL;rfl
 have e2:enH x y r = -(-((rtu (x*x+y*y)+r)*(rtu (x*x+y*y)+r))/1048576):=by unfold enH;rfl
 have bd:=en_bd h
 have c:=fun w=>sizes_any x y r w h.sh.1 h.sh.2 h.2.1 h.2.2
 rw[e1,e2]
 clear e1 e2
 obtain⟨L,hL⟩:∃L,max 0 (rt (x*x+y*y)-r)=L:=⟨_,rfl⟩
 obtain⟨U,hU⟩:∃U,rtu (x*x+y*y)+r=U:=⟨_,rfl⟩
 rw[hL,hU]at c bd ⊢
 obtain⟨b1,b2,b3,b4⟩:=bd
 have C:=Lib.hid c
 have RY:=Lib.hid (fun w=>read_yes x y r w h.1 h.2.1 h.2.2)
 have m1:=mul_bd b1 b2 b1 b2
 have m2:=mul_bd b3 b4 b3 b4
 have CF:=Lib.hid (fun w=>floor_any (L*L) 1048576 w (by omega) (by omega) (by omega) (by omega))
 have CC:=Lib.hid (fun w=>ceil_any (U*U) 1048576 w (by omega) (by omega) (by omega) (by omega))
 clear hL hU c h
 go_enter Tryz.func40,Tryz.ntmps40
 go_wp2_with fail
 refine(RY.out _).mono ?_
 rintro e w1 ⟨rfl,A1⟩
 have A5:=A1.size
 (try simp at A5)
 have A8:=bl5 A1 (w.heap.size+1)
 go_wp2_with fail
 refine(C.out _).mono ?_
 rintro e w2 ⟨rfl,A2⟩
 have A6:=A2.size
 (try simp at A6)
 have A9:=bl5 A2 (w.heap.size+1)
 go_wp2_with fail
 refine calm 13 (by kernel_rfl) (by kernel_rfl) fun hG => ?_
 have A3:=hG (w.heap.size+1) lto
 have A4:=hG (w2.heap.size) lto
 clear hG
 simp only[List.take_succ_cons,List.take_zero,List.drop_succ_cons,List.drop_zero]
 repeat (go_big_quiet_step (first|(go_at_call 110;with_reducible exact calm_same CF.out)|(go_at_call 111;with_reducible exact calm_same CC.out)))
 refine wpQuiet_nil ?_
 intro w3 A0
 clear A3 A4
 have A7:=A0.size
 (try simp at A7)
 have Aa:=bl5 A0 (w.heap.size+1)
 have Ab:=bl5 A0 (w2.heap.size)
 go_wp2
 refine bodyPost_ret (by simp[results,Tryz.results40,go_sem, *];first|done|rfl) rfl ?_
 exact⟨rfl,blw⟩
end Go.Proofs.YticobgianbecpaaGreatDoor
