/- StackWithin: the walk. -/
import Derived.Test.YticobgianbecpaaGreatDoorKWi
import Derived.Test.YticobgianbecpaaGreatDoorKStk
import Derived.Test.YticobgianbecpaaGreatDoorKEnd
import Derived.Test.YticobgianbecpaaGreatDoorKCopy
import Derived.Test.YticobgianbecpaaGreatDoorKPk
import Derived.Test.YticobgianbecpaaGreatDoorKShr
import Derived.Deep.RegionHeld3
namespace Go.Proofs.YticobgianbecpaaGreatDoor
open Go Go.Sort Go.RowKit
def mixB (i t:Int) (ls:List Box) (k:Nat):List Box:=(ls.take k).map (selB i t)++ls.drop k
theorem mix_zero (i t:Int) (ls:List Box):mixB i t ls 0=ls:=by unfold mixB;simp
theorem mix_all (i t:Int) (ls:List Box):mixB i t ls ls.length=ls.map (selB i t):=by unfold mixB;simp
theorem mix_at {i t:Int}{ls:List Box}{k:Nat}{b:Box} (h:ls[k]?=some b):(mixB i t ls k)[k]?=some b:=by
 have hk:=(List.getElem?_eq_some_iff.1 h).1
 unfold mixB
 rw[List.getElem?_append_right (by simp;omega)]
 simp only[List.length_map,List.length_take,List.getElem?_drop]
 rw[show k+(k-min k ls.length)=k by omega]
 exact h
theorem mix_next {i t:Int}{ls:List Box}{k:Nat}{b:Box} (h:ls[k]?=some b):(mixB i t ls k).set k (selB i t b)=mixB i t ls (k+1):=by
 obtain⟨hk,e⟩:=List.getElem?_eq_some_iff.1 h
 unfold mixB
 apply List.ext_getElem?
 intro j
 have hl:((ls.take k).map (selB i t)).length=k:=by simp;omega
 by_cases hj:j=k
 ·subst hj
  rw[List.getElem?_set_self (by simp;omega),List.getElem?_append_left (by simp;omega)]
  simp[e,hk]
 ·rw[List.getElem?_set_ne (by omega)]
  by_cases c:j<k
  ·rw[List.getElem?_append_left (by omega),List.getElem?_append_left (by simp;omega)]
   simp only[List.getElem?_map,List.getElem?_take]
   rw[if_pos c,if_pos (by omega)]
  ·rw[List.getElem?_append_right (by omega),List.getElem?_append_right (by simp;omega)]
   simp only[List.getElem?_drop,List.length_map,List.length_take]
   congr 1
   omega
theorem own_at0 (a:Nat) (k:Nat):(⟨a,0,none⟩:Addr).add k=⟨a,k,none⟩:=by
 unfold Addr.add
 by_cases h:k=0
 ·subst h;simp
 ·simp[h]
theorem OwnBox.one {ls:List Box}{N g j i:Nat}{w:World}{b b':Box}{v:Int} (h:OwnBox ls N g w) (hj:ls[j]?=some b) (hi:i<5) (hb:∀k,k<5→b'.five[k]?=if k=i then some (.int .i64 v)else b.five[k]?) :
  OwnBox (ls.set j b') N g (w.setCell ⟨g,j*5+i,none⟩ (.int .i64 v)):=by
 refine⟨h.lo,by simpa using h.hi,fun k c hk=>boxAt_five.2 fun m hm => ?_,fun o=>(World.frozen?_setCell _ _ _ _).trans (h.free o)⟩
 have hjl:j<ls.length:=(List.getElem?_eq_some_iff.1 hj).1
 rw[own_at0]
 have e1:(⟨g,k*5,none⟩:Addr).add m=⟨g,k*5+m,none⟩:=by rw[← own_at0 g (k*5),add_more,own_at0]
 rw[e1]
 by_cases hkj:k=j
 ·subst hkj
  rw[List.getElem?_set_self hjl]at hk
  simp only[Option.some.injEq]at hk
  subst hk
  rw[hb m hm]
  have hb0:=boxAt_five.1 (h.at' k b hj) m hm
  rw[own_at0,e1]at hb0
  by_cases hmi:m=i
  ·subst hmi
   rw[if_pos rfl]
   refine World.cell?_setCell_same (u:=(b.five[m]?).getD (.bool true)) _ _ _ ?_
   rw[hb0]
   have:m<b.five.length:=by simp[Box.five];omega
   rw[List.getElem?_eq_getElem this]
   rfl
  ·rw[if_neg hmi,← hb0]
   exact World.cell?_setCell_other _ _ _ _ (fun e=>by injection e with _ e2;omega)
 ·rw[List.getElem?_set_ne (fun e=>hkj e.symm)]at hk
  have hb0:=boxAt_five.1 (h.at' k c hk) m hm
  rw[own_at0,e1]at hb0
  rw[← hb0]
  exact World.cell?_setCell_other _ _ _ _ (fun e=>by injection e with _ e2;omega)
theorem OwnBox.sel {ls:List Box}{N g j:Nat}{w:World}{b:Box} (h:OwnBox ls N g w) (hj:ls[j]?=some b) (i t:Int) :
  OwnBox (ls.set j (selB i t b)) N g ((((w.setCell ⟨g,j*5+0,none⟩ (.int .i64 (ptN b.il b.ih i))).setCell ⟨g,j*5+1,none⟩ (.int .i64 (ptN b.il b.ih i))).setCell ⟨g,j*5+2,none⟩ (.int .i64 (ptN b.tl b.th t))).setCell ⟨g,j*5+3,none⟩ (.int .i64 (ptN b.tl b.th t))):=by
 have hl:=(List.getElem?_eq_some_iff.1 hj).1
 have s1:=h.one (i:=0) (v:=ptN b.il b.ih i) (b':=⟨ptN b.il b.ih i,b.ih,b.tl,b.th,b.lo⟩) hj (by decide) (fun k hk=>by match k,hk with|0,_=>rfl|1,_=>rfl|2,_=>rfl|3,_=>rfl|4,_=>rfl)
 have s2:=s1.one (i:=1) (v:=ptN b.il b.ih i) (b':=⟨ptN b.il b.ih i,ptN b.il b.ih i,b.tl,b.th,b.lo⟩) (List.getElem?_set_self hl) (by decide) (fun k hk=>by match k,hk with|0,_=>rfl|1,_=>rfl|2,_=>rfl|3,_=>rfl|4,_=>rfl)
 rw[List.set_set]at s2
 have s3:=s2.one (i:=2) (v:=ptN b.tl b.th t) (b':=⟨ptN b.il b.ih i,ptN b.il b.ih i,ptN b.tl b.th t,b.th,b.lo⟩) (List.getElem?_set_self hl) (by decide) (fun k hk=>by match k,hk with|0,_=>rfl|1,_=>rfl|2,_=>rfl|3,_=>rfl|4,_=>rfl)
 rw[List.set_set]at s3
 have s4:=s3.one (i:=3) (v:=ptN b.tl b.th t) (b':=selB i t b) (List.getElem?_set_self hl) (by decide) (fun k hk=>by match k,hk with|0,_=>rfl|1,_=>rfl|2,_=>rfl|3,_=>rfl|4,_=>rfl)
 rw[List.set_set]at s4
 exact s4
theorem SharesOf_sel (A:Ask) (k0 k1 k2 k3:Int) (g c:Nat) (w:World) (hr:Row (some ⟨g,0,none⟩) (A.ls.map (selB k2 k3)) w) (hg:g<w.heap.size) :
  Calls Tryz.prog 10 #[.agg #[.int .i64 A.ix,.int .i64 (ptN A.sl A.sh k0),.int .i64 (ptN A.sl A.sh k0),.int .i64 A.po,.int .i64 (ptN A.wl A.wh k1),.int .i64 (ptN A.wl A.wh k1),.slice (some ⟨g,0,none⟩) A.ls.length c,.int .i64 A.oi,.int .i64 A.ol]] w fun e w' =>
   ((∃q:Int,¬q=0∧e = .returned (.tuple #[zeroSix,.int .i64 q]))∨(ShrOk (selA A k0 k1 k2 k3 (some ⟨g,0,none⟩) c)∧e = .returned (.tuple #[(shr (selA A k0 k1 k2 k3 (some ⟨g,0,none⟩) c)).val,.int .i64 0])))∧Below w.heap.size w w':=by
 have h:=SharesOf_any (selA A k0 k1 k2 k3 (some ⟨g,0,none⟩) c) w hr (fun a h=>by cases h;exact hg)
 have e:(selA A k0 k1 k2 k3 (some ⟨g,0,none⟩) c).val = .agg #[.int .i64 A.ix,.int .i64 (ptN A.sl A.sh k0),.int .i64 (ptN A.sl A.sh k0),.int .i64 A.po,.int .i64 (ptN A.wl A.wh k1),.int .i64 (ptN A.wl A.wh k1),.slice (some ⟨g,0,none⟩) A.ls.length c,.int .i64 A.oi,.int .i64 A.ol]:=by
  unfold selA Ask.val
  simp only[List.length_map]
 rw[e]at h
 refine h.mono ?_
 rintro e w' ⟨h|⟨h0,h1,h2,h3,h4⟩,hb⟩
 ·exact⟨.inl h,hb⟩
 ·refine⟨.inr ⟨⟨h0,h1,h2,h3⟩,?_⟩,hb⟩
  unfold shr
  exact h4
set_option maxHeartbeats 2000000 in
theorem CopyAsk_own (A:Ask) (hp:A.pa=none→A.ls.length=0∧A.cap=0) (hn:A.ls.length≤1000) (w:World) (hr:Row A.pa A.ls w) :
  Calls Tryz.prog 11 #[A.val] w fun E w'=>∃g c,E = .returned (A.mv (some ⟨g,0,none⟩) c).val∧OwnBox A.ls w.heap.size g w'∧Below w.heap.size w w':=by
 have CB:=Lib.hid (fun w hr=>copy_all A.pa A.ls A.cap hp hn w hr)
 have HR:=Lib.hid hr
 clear hr hp hn
 unfold Ask.mv Ask.val
 simp only
 generalize A.ls.length=len at *
 generalize A.pa=pa at *
 go_enter Tryz.func11,Tryz.ntmps11
 go_wp2_with fail
 refine(CB.out _ (HR.out.bel blw)).mono ?_
 rintro E w1 ⟨g,c,rfl,ho,A0⟩
 have hlo:=ho.lo
 have hhi:=ho.hi
 simp at hlo
 have n1:¬g=w.heap.size:=by omega
 have n2:¬g=w.heap.size+1:=by omega
 have n4:¬w.heap.size=g:=by omega
 have n5:¬w.heap.size+1=g:=by omega
 have h1:w.heap.size<w1.heap.size:=by omega
 have h2:w.heap.size+1<w1.heap.size:=by omega
 have q1:=blc A0 w.heap.size
 have q2:=blc A0 (w.heap.size+1)
 have q3:=blf A0 w.heap.size
 have q4:=blf A0 (w.heap.size+1)
 repeat' (first|go_values|go_skip|go_guarded|go_step|go_upon|(simp only[];go_simp))
 refine bodyPost_ret (by simp[results,Tryz.results11,go_sem, *];first|done|rfl) rfl ?_
 exact⟨g,c,rfl,(OwnBox.keep ⟨by omega,ho.hi,ho.at',ho.free⟩ (by simp) (fun o=>by go_simp) (fun o=>by go_simp)),blw⟩
set_option maxRecDepth 100000 in
set_option maxHeartbeats 16000000 in
theorem stackWithin_any (AW:Awake3) (A:Ask) (k0 k1 k2 k3:Int) (hp:A.pa=none→A.ls.length=0∧A.cap=0) (w:World) (hS:Std w) (hr:Row A.pa A.ls w) :
  Calls Tryz.prog 5 #[A.val,.agg #[.int .i64 k0,.int .i64 k1,.int .i64 k2,.int .i64 k3]] w fun e w'=>e = .returned (.bool true)∧Below w.heap.size w w':=by
 have AW:=Lib.hid AW
 have FW:=Lib.hid (fun w=>Few_any A w)
 have ST:=Lib.hid hS
 clear hS
 by_cases hn:A.ls.length≤42
 case neg =>
  have HN:=Lib.hid hn
  clear hr hp hn
  unfold Ask.val at FW ⊢
  generalize A.ls.length=len at *
  go_enter Tryz.func5,Tryz.ntmps5
  go_wp2_with fail
  refine(AW.out _ (ST.out.below blw)).mono ?_
  rintro e w1 ⟨rfl,A0⟩
  obtain⟨An,Al,Aj,Ad,Ag⟩:=bl5 A0 (w.heap.size)
  go_wp2_with fail
  refine(FW.out _).mono ?_
  rintro e w2 ⟨t,rfl,ht,A4⟩
  obtain rfl:t=false:=by cases t;· rfl
                         ·exact absurd (ht rfl) HN.out
  obtain⟨Ao,Am,Ak,Ae,Ah⟩:=bl5 A4 (w.heap.size)
  repeat' (first|go_values|go_skip|go_guarded|go_step|go_upon|(simp only[];go_simp))
  go_ret
  exact⟨rfl,blw⟩
 have CP:=Lib.hid (fun w hr=>CopyAsk_any A hp (by omega) w hr)
 have CO:=Lib.hid (fun w hr=>CopyAsk_own A hp (by omega) w hr)
 have SH:=Lib.hid (fun g c w hr hg=>SharesOf_at A g c w hr hg)
 have SX:=Lib.hid (fun g c w hr hg=>SharesOf_sel A k0 k1 k2 k3 g c w hr hg)
 have WS:=Lib.hid (fun g c h k=>within_shr (A:=A) k0 k1 k2 k3 (some ⟨g,0,none⟩) c h k)
 have HR:=Lib.hid hr
 have hlen:=hn
 clear hr hp hn
 unfold Ask.mv at CP SH CO
 unfold Ask.val at CP FW SH CO ⊢
 go_enter Tryz.func5,Tryz.ntmps5
 go_wp2_with fail
 refine(AW.out _ (ST.out.below blw)).mono ?_
 rintro e w1 ⟨rfl,A0⟩
 clear AW ST
 obtain⟨An,Al,Aj,Ad,Ag⟩:=bl5 A0 (w.heap.size)
 obtain⟨C4,Bw,Bo,Ba,Bh⟩:=bl5 A0 (w.heap.size+1)
 go_wp2_with fail
 refine(FW.out _).mono ?_
 rintro e w2 ⟨t,rfl,ht,A4⟩
 clear ht
 obtain⟨Ao,Am,Ak,Ae,Ah⟩:=bl5 A4 (w.heap.size)
 obtain⟨C5,Bx,Bp,Bb,Bi⟩:=bl5 A4 (w.heap.size+1)
 cases t
 ·repeat' (first|go_values|go_skip|go_guarded|go_step|go_upon|(simp only[];go_simp))
  go_ret
  exact⟨rfl,blw⟩
 go_wp2_with fail
 refine(CP.out _ (HR.out.bel blw)).mono ?_
 rintro e w3 ⟨g3,c3,rfl,hr3,hl3,hh3,Ap⟩
 obtain⟨Cm,Cj,Cg,Cc,Ce⟩:=bl5 Ap (w.heap.size)
 obtain⟨C6,By,Bq,Bc,Bj⟩:=bl5 Ap (w.heap.size+1)
 go_wp2_with fail
 refine(SH.out g3 c3 _ hr3 hh3).mono ?_
 rintro e w4 ⟨hE,Aq⟩
 clear hr3
 obtain⟨Cn,Ck,Ch,Cd,Cf⟩:=bl5 Aq (w.heap.size)
 obtain⟨C7,Bz,Br,Bd,Bk⟩:=bl5 Aq (w.heap.size+1)
 rcases hE with⟨q,hq,rfl⟩|⟨sA,rfl⟩
 ·have hq1:(q != 0)=true:=by simpa using hq
  clear hq
  unfold zeroSix
  repeat' (first|go_values|go_skip|go_guarded|go_step|go_upon|(simp only[];go_simp))
  go_ret
  exact⟨rfl,blw⟩
 have oA:=sA.ok
 have WS:=Lib.hid (fun g c k=>WS.out g c sA k)
 unfold Shr.val
 generalize hs:shr A=s at *
 clear hs
 have P0:=Lib.hid (fun w=>point_any A.sl A.sh k0 oA.s0 oA.s1 (Int.le_trans oA.s2 (by decide)) w)
 have P1:=Lib.hid (fun w=>point_any A.wl A.wh k1 (Int.le_trans (by decide) oA.w0) oA.w1 (Int.le_trans oA.w2 (by decide)) w)
 obtain⟨ps,hps⟩:∃n,ptN A.sl A.sh k0=n:=⟨_,rfl⟩
 obtain⟨pv,hpv⟩:∃n,ptN A.wl A.wh k1=n:=⟨_,rfl⟩
 rw[hps]at P0
 rw[hpv]at P1
 rw[hps,hpv]at SX
 have OA:=Lib.hid oA
 clear oA sA
 go_wp2_with fail
 refine(CO.out _ (HR.out.bel blw)).mono ?_
 rintro e w5 ⟨g5,c5,rfl,ho5,Aa⟩
 have HO:=Lib.hid ho5
 have hl5:=ho5.lo
 have hh5:=ho5.hi
 (try simp at hl5)
 clear ho5
 obtain⟨Co,Cl,Ci,Af,Ai⟩:=bl5 Aa (w.heap.size)
 obtain⟨C8,C0,Bs,A5,A6⟩:=bl5 Aa (w.heap.size+1)
 obtain⟨Cb,Ca,C9,Ab,Ac⟩:=bl5 Aa (w4.heap.size)
 have n5a:¬g5=w.heap.size:=by omega
 have n5b:¬g5=w.heap.size+1:=by omega
 have n5d:¬g5=w4.heap.size:=by omega
 have n5e:¬g5=w5.heap.size:=by omega
 have n5f:¬w5.heap.size=g5:=by omega
 repeat (first|(with_reducible refine wp_markr 9 ?_)|go_values|go_skip|go_guarded|go_step|go_upon|(simp only[];go_simp))
 refine wp_named (fun w6 hN => ?_)
 have XB:∀o,w6.cell? ⟨w5.heap.size,o,none⟩=(#[.int .i64 A.ix,.int .i64 A.sl,.int .i64 A.sh,.int .i64 A.po,.int .i64 A.wl,.int .i64 A.wh,.slice (some ⟨g5,0,none⟩) A.ls.length c5,.int .i64 A.oi,.int .i64 A.ol]:Array Value)[o]?:=fun o=>by rw[hN];go_simp
 have XF:∀o,w6.frozen? ⟨w5.heap.size,o,none⟩=false:=fun o=>by rw[hN];go_simp
 have KB:∀o,w6.cell? ⟨w.heap.size+1,o,none⟩=(#[.int .i64 k0,.int .i64 k1,.int .i64 k2,.int .i64 k3]:Array Value)[o]?:=fun o=>by rw[hN];go_simp
 have SB:∀o,w6.cell? ⟨w4.heap.size,o,none⟩=(#[.int .i64 s.r0,.int .i64 s.r1,.int .i64 s.t0,.int .i64 s.t1,.int .i64 s.a0,.int .i64 s.a1]:Array Value)[o]?:=fun o=>by rw[hN];go_simp
 have y1:w6.cell? ⟨w.heap.size,1,none⟩=some (.int .i64 A.sl):=by rw[hN];go_simp
 have y2:w6.cell? ⟨w.heap.size,2,none⟩=some (.int .i64 A.sh):=by rw[hN];go_simp
 have y4:w6.cell? ⟨w.heap.size,4,none⟩=some (.int .i64 A.wl):=by rw[hN];go_simp
 have y5:w6.cell? ⟨w.heap.size,5,none⟩=some (.int .i64 A.wh):=by rw[hN];go_simp
 have HO6:=Lib.hid (show OwnBox A.ls _ g5 w6 from HO.out.keep (by rw[hN];simp) (fun o=>by rw[hN];go_simp) (fun o=>by rw[hN];go_simp))
 have hv6:Below w.heap.size w w6:=by rw[hN];exact blw
 have lt6:w5.heap.size<w6.heap.size:=by rw[hN];simp
 have q0:w6.cell? ⟨w.heap.size+1,0,none⟩=some (.int .i64 k0):=(KB 0).trans rfl
 have q1:w6.cell? ⟨w.heap.size+1,1,none⟩=some (.int .i64 k1):=(KB 1).trans rfl
 have le5:w4.heap.size<w5.heap.size:=by omega
 have le4:w.heap.size+1<w4.heap.size:=by omega
 clear hN HO
 (try clear Af A5 Ab Ai A6 Ac)
 have XH:=Lib.hid XB
 have KH:=Lib.hid KB
 have SH6:=Lib.hid SB
 clear KB SB
 go_wp2_with fail
 go_region_held3 (fun w'=>w'.cell? ⟨w.heap.size,1,none⟩=some (.int .i64 A.sl)∧w'.cell? ⟨w.heap.size,2,none⟩=some (.int .i64 A.sh)∧w'.cell? ⟨w.heap.size,4,none⟩=some (.int .i64 A.wl)∧w'.cell? ⟨w.heap.size,5,none⟩=some (.int .i64 A.wh)∧w'.cell? ⟨w.heap.size+1,0,none⟩=some (.int .i64 k0)∧w'.cell? ⟨w.heap.size+1,1,none⟩=some (.int .i64 k1)) ((first|exact⟨by with_reducible assumption,by with_reducible assumption,by with_reducible assumption,by with_reducible assumption,by with_reducible assumption,by with_reducible assumption⟩|go_simp))
  (first
   | (go_at_call 19;(with_reducible refine(P0.out _).mono ?_);rintro e w7 ⟨rfl,Cp⟩;have A1:Below w6.heap.size w6 w7:=blw;have y1_w7:w7.cell? ⟨w.heap.size,1,none⟩=some (.int .i64 A.sl):=(A1.cell (p:=⟨w.heap.size,1,none⟩) (show w.heap.size<w6.heap.size by omega)).trans y1;have y2_w7:w7.cell? ⟨w.heap.size,2,none⟩=some (.int .i64 A.sh):=(A1.cell (p:=⟨w.heap.size,2,none⟩) (show w.heap.size<w6.heap.size by omega)).trans y2;have y4_w7:w7.cell? ⟨w.heap.size,4,none⟩=some (.int .i64 A.wl):=(A1.cell (p:=⟨w.heap.size,4,none⟩) (show w.heap.size<w6.heap.size by omega)).trans y4;have y5_w7:w7.cell? ⟨w.heap.size,5,none⟩=some (.int .i64 A.wh):=(A1.cell (p:=⟨w.heap.size,5,none⟩) (show w.heap.size<w6.heap.size by omega)).trans y5;have Cr:w7.cell? ⟨w.heap.size+1,0,none⟩=some (.int .i64 k0):=(A1.cell (p:=⟨w.heap.size+1,0,none⟩) (show w.heap.size+1<w6.heap.size by omega)).trans q0;have Ct:w7.cell? ⟨w.heap.size+1,1,none⟩=some (.int .i64 k1):=(A1.cell (p:=⟨w.heap.size+1,1,none⟩) (show w.heap.size+1<w6.heap.size by omega)).trans q1;have XB_w7:=fun o=>(A1.cell (p:=⟨w5.heap.size,o,none⟩) lt6).trans (XH.out o);have XF_w7:=fun o=>(A1.frozen (p:=⟨w5.heap.size,o,none⟩) lt6).trans (XF o))
   | (go_at_call 19;(with_reducible refine(P1.out _).mono ?_);rintro e w8 ⟨rfl,Cq⟩;have A2:Below w6.heap.size w6 w8:=bl_call A1 (show Below w7.heap.size w7 w8 from blw);have y1_w8:w8.cell? ⟨w.heap.size,1,none⟩=some (.int .i64 A.sl):=(A2.cell (p:=⟨w.heap.size,1,none⟩) (show w.heap.size<w6.heap.size by omega)).trans y1;have y2_w8:w8.cell? ⟨w.heap.size,2,none⟩=some (.int .i64 A.sh):=(A2.cell (p:=⟨w.heap.size,2,none⟩) (show w.heap.size<w6.heap.size by omega)).trans y2;have y4_w8:w8.cell? ⟨w.heap.size,4,none⟩=some (.int .i64 A.wl):=(A2.cell (p:=⟨w.heap.size,4,none⟩) (show w.heap.size<w6.heap.size by omega)).trans y4;have y5_w8:w8.cell? ⟨w.heap.size,5,none⟩=some (.int .i64 A.wh):=(A2.cell (p:=⟨w.heap.size,5,none⟩) (show w.heap.size<w6.heap.size by omega)).trans y5;have Cs:w8.cell? ⟨w.heap.size+1,0,none⟩=some (.int .i64 k0):=(A2.cell (p:=⟨w.heap.size+1,0,none⟩) (show w.heap.size+1<w6.heap.size by omega)).trans q0;have Cu:w8.cell? ⟨w.heap.size+1,1,none⟩=some (.int .i64 k1):=(A2.cell (p:=⟨w.heap.size+1,1,none⟩) (show w.heap.size+1<w6.heap.size by omega)).trans q1;have XB_w8:=fun o=>(A2.cell (p:=⟨w5.heap.size,o,none⟩) lt6).trans (XH.out o);have XF_w8:=fun o=>(A2.frozen (p:=⟨w5.heap.size,o,none⟩) lt6).trans (XF o))
  )
 repeat (first|(with_reducible refine wp_markr 10 ?_)|go_values|go_skip|go_guarded|go_step|go_upon|(simp only[];go_simp))
 refine wp_named (fun w9 hN => ?_)
 have hk8:Below w6.heap.size w6 w8:=A2
 have le8:=hk8.size
 have z0:w9.cell? ⟨w5.heap.size,0,none⟩=some (.int .i64 A.ix):=by rw[hN];go_simp
 have z1:w9.cell? ⟨w5.heap.size,1,none⟩=some (.int .i64 ps):=by rw[hN];go_simp
 have z2:w9.cell? ⟨w5.heap.size,2,none⟩=some (.int .i64 ps):=by rw[hN];go_simp
 have z3:w9.cell? ⟨w5.heap.size,3,none⟩=some (.int .i64 A.po):=by rw[hN];go_simp
 have z4:w9.cell? ⟨w5.heap.size,4,none⟩=some (.int .i64 pv):=by rw[hN];go_simp
 have z5:w9.cell? ⟨w5.heap.size,5,none⟩=some (.int .i64 pv):=by rw[hN];go_simp
 have z6:w9.cell? ⟨w5.heap.size,6,none⟩=some (.slice (some ⟨g5,0,none⟩) A.ls.length c5):=by rw[hN];go_simp
 have z7:w9.cell? ⟨w5.heap.size,7,none⟩=some (.int .i64 A.oi):=by rw[hN];go_simp
 have z8:w9.cell? ⟨w5.heap.size,8,none⟩=some (.int .i64 A.ol):=by rw[hN];go_simp
 have n51:¬w.heap.size+1=w5.heap.size:=by omega
 have n54:¬w4.heap.size=w5.heap.size:=by omega
 have KB9:=Lib.hid (show∀o,w9.cell? ⟨w.heap.size+1,o,none⟩=(#[.int .i64 k0,.int .i64 k1,.int .i64 k2,.int .i64 k3]:Array Value)[o]? from fun o=>by
  have:=(hk8.cell (p:=⟨w.heap.size+1,o,none⟩) (show w.heap.size+1<w6.heap.size by omega)).trans (KH.out o)
  rw[hN];go_simp)
 have SB9:=Lib.hid (show∀o,w9.cell? ⟨w4.heap.size,o,none⟩=(#[.int .i64 s.r0,.int .i64 s.r1,.int .i64 s.t0,.int .i64 s.t1,.int .i64 s.a0,.int .i64 s.a1]:Array Value)[o]? from fun o=>by
  have:=(hk8.cell (p:=⟨w4.heap.size,o,none⟩) (show w4.heap.size<w6.heap.size by omega)).trans (SH6.out o)
  rw[hN];go_simp)
 have hg6:g5<w6.heap.size:=HO6.out.hi
 have HO9:=Lib.hid (show OwnBox A.ls _ g5 w9 from HO6.out.keep (by rw[hN];simp;omega) (fun o=>by
  have:=hk8.cell (p:=⟨g5,o,none⟩) hg6
  rw[hN];go_simp) (fun o=>by
  have:=hk8.frozen (p:=⟨g5,o,none⟩) hg6
  rw[hN];go_simp))
 have hv9:Below w.heap.size w w9:=by rw[hN];exact blw
 have lt9:w5.heap.size<w9.heap.size:=by rw[hN];simp;omega
 have HO9:=Lib.hid (show OwnBox A.ls 0 g5 w9 from⟨Nat.zero_le _,HO9.out.hi,HO9.out.at',HO9.out.free⟩)
 clear hN
 go_wp2_with fail
 go_loopw [8] (fun i wr=>∃k:Nat,k≤A.ls.length∧i = .int .i64 k∧Below w.heap.size w wr∧w5.heap.size<wr.heap.size∧(∀o,wr.cell? ⟨w5.heap.size,o,none⟩=w9.cell? ⟨w5.heap.size,o,none⟩)∧(∀o,wr.cell? ⟨w.heap.size+1,o,none⟩=w9.cell? ⟨w.heap.size+1,o,none⟩)∧(∀o,wr.cell? ⟨w4.heap.size,o,none⟩=w9.cell? ⟨w4.heap.size,o,none⟩)∧OwnBox (mixB k2 k3 A.ls k) 0 g5 wr) (fun i _=>A.ls.length-(intOf i).toNat)
 case atStart=>exact⟨0,by omega,by first|trivial|rfl,hv9,lt9,fun o=>rfl,fun o=>rfl,fun o=>rfl,by rw[mix_zero];exact HO9.out⟩
 case round =>
  obtain⟨k,hk,rfl,Ar,lt_wr,d5,d1,d4,HOk⟩:=hrel
  have D5:=Lib.hid d5
  have D1:=Lib.hid d1
  have D4:=Lib.hid d4
  clear d5 d1 d4
  by_cases hlt:k<A.ls.length
  ·obtain⟨b,hb⟩:∃b,A.ls[k]?=some b:=⟨_,List.getElem?_eq_getElem hlt⟩
   have hbox:BoxOk b:=OA.out.ls b (List.mem_of_getElem? hb)
   have hbb:=hbox
   obtain⟨h0,h1,h2,h3,h4,h5,h6,h7⟩:=hbb
   have Q0:=fun w=>point_any b.il b.ih k2 (by omega) h1 (by omega) w
   have Q1:=fun w=>point_any b.tl b.th k3 (by omega) h4 (by omega) w
   have HX:=HOk.sel (mix_at hb) k2 k3
   rw[mix_next hb]at HX
   obtain⟨pi,hpi⟩:∃n,ptN b.il b.ih k2=n:=⟨_,rfl⟩
   obtain⟨pt,hpt⟩:∃n,ptN b.tl b.th k3=n:=⟨_,rfl⟩
   rw[hpi]at Q0 HX
   rw[hpt]at Q1 HX
   rw[Nat.add_zero]at HX
   have HX:=Lib.hid HX
   have Q0:=Lib.hid Q0
   have Q1:=Lib.hid Q1
   have E:=boxAt_five.1 (HOk.at' k b (mix_at hb))
   have E0:=E 0 (by decide)
   have E1:=E 1 (by decide)
   have E2:=E 2 (by decide)
   have E3:=E 3 (by decide)
   simp only[Addr.add_mid,Box.five,List.getElem?_cons_zero,List.getElem?_cons_succ,Nat.add_zero,Nat.zero_add]at E0 E1 E2 E3
   have HF:=HOk.free
   have HG:=HOk.hi
   have x6:wr.cell? ⟨w5.heap.size,6,none⟩=some (.slice (some ⟨g5,0,none⟩) A.ls.length c5):=(D5.out 6).trans z6
   clear E h0 h1 h2 h3 h4 h5 h6 h7
   have r2:wr.cell? ⟨w.heap.size+1,2,none⟩=some (.int .i64 k2):=(D1.out 2).trans ((KB9.out 2).trans rfl)
   have r3:wr.cell? ⟨w.heap.size+1,3,none⟩=some (.int .i64 k3):=(D1.out 3).trans ((KB9.out 3).trans rfl)
   have hlt2:(k:Int)<A.ls.length:=by omega
   have n56:¬g5=w5.heap.size:=n5e
   have n57:¬g5=w.heap.size+1:=n5b
   have HX2:=HX.out
   have DD:=Lib.hid (fun(w':World) (h:Below wr.heap.size ((((wr.setCell ⟨g5,k*5,none⟩ (.int .i64 pi)).setCell ⟨g5,k*5+1,none⟩ (.int .i64 pi)).setCell ⟨g5,k*5+2,none⟩ (.int .i64 pt)).setCell ⟨g5,k*5+3,none⟩ (.int .i64 pt)) w')=>show Below w.heap.size w w'∧w5.heap.size<w'.heap.size∧(∀o,w'.cell? ⟨w5.heap.size,o,none⟩=w9.cell? ⟨w5.heap.size,o,none⟩)∧(∀o,w'.cell? ⟨w.heap.size+1,o,none⟩=w9.cell? ⟨w.heap.size+1,o,none⟩)∧(∀o,w'.cell? ⟨w4.heap.size,o,none⟩=w9.cell? ⟨w4.heap.size,o,none⟩)∧OwnBox (mixB k2 k3 A.ls (k+1)) 0 g5 w' from by
    have hsz:=h.size
    simp at hsz
    have hlo5:w.heap.size≤g5:=by omega
    have hb2:Below w.heap.size w ((((wr.setCell ⟨g5,k*5,none⟩ (.int .i64 pi)).setCell ⟨g5,k*5+1,none⟩ (.int .i64 pi)).setCell ⟨g5,k*5+2,none⟩ (.int .i64 pt)).setCell ⟨g5,k*5+3,none⟩ (.int .i64 pt)):=(((Ar.setCell (show w.heap.size≤(Addr.mk g5 (k*5) none).block from hlo5) _).setCell (show w.heap.size≤(Addr.mk g5 (k*5+1) none).block from hlo5) _).setCell (show w.heap.size≤(Addr.mk g5 (k*5+2) none).block from hlo5) _).setCell (show w.heap.size≤(Addr.mk g5 (k*5+3) none).block from hlo5) _
    have U2:∀b o,¬g5=b→((((wr.setCell ⟨g5,k*5,none⟩ (.int .i64 pi)).setCell ⟨g5,k*5+1,none⟩ (.int .i64 pi)).setCell ⟨g5,k*5+2,none⟩ (.int .i64 pt)).setCell ⟨g5,k*5+3,none⟩ (.int .i64 pt)).cell? ⟨b,o,none⟩=wr.cell? ⟨b,o,none⟩:=fun b o h=>(((World.cell?_setCell_other _ _ _ _ (fun e=>by injection e with e1 e2;omega)).trans (World.cell?_setCell_other _ _ _ _ (fun e=>by injection e with e1 e2;omega))).trans (World.cell?_setCell_other _ _ _ _ (fun e=>by injection e with e1 e2;omega))).trans (World.cell?_setCell_other _ _ _ _ (fun e=>by injection e with e1 e2;omega))
    exact⟨Below.trans hb2 (h.mono (by omega)),by omega,fun o=>((h.cell (p:=⟨w5.heap.size,o,none⟩) lt_wr).trans (U2 _ o n56)).trans (D5.out o),fun o=>((h.cell (p:=⟨w.heap.size+1,o,none⟩) (show w.heap.size+1<wr.heap.size by omega)).trans (U2 _ o n57)).trans (D1.out o),fun o=>((h.cell (p:=⟨w4.heap.size,o,none⟩) (show w4.heap.size<wr.heap.size by omega)).trans (U2 _ o n5d)).trans (D4.out o),HX2.keep (by simp;omega) (fun o=>h.cell (p:=⟨g5,o,none⟩) HG) (fun o=>h.frozen (p:=⟨g5,o,none⟩) HG)⟩)
   have lKB:w.heap.size+1<wr.heap.size:=by omega
   clear HX HX2 D5 D1 D4 KB9 SB9 SH6 XH KH HO6 HO9 SX WS P0 P1
   go_wp2_with fail
   refine pick_ops (by kernel_rfl) ?_
   refine pick_round w5.heap.size (w.heap.size+1) g5 A.ls.length c5 k b.il b.ih b.tl b.th k2 k3 pi pt (of_decide_eq_true (by kernel_rfl)) rfl rfl rfl lt_wr lKB HG n56 n57 x6 r2 r3 E0 E1 E2 E3 HF hlt2 Q0.out Q1.out ?_
   intro w' hb
   have Q:=Lib.hid (DD.out w' hb)
   clear hb DD
   simp only[putL,Act.put,List.setIfInBounds_toArray,List.set_cons_zero,List.set_cons_succ]
   go_wp2_with fail
   go_roundw
   case rel=>exact⟨k+1,by omega,by first|rfl|(simp;done)|(simp;omega),Q.out.1,Q.out.2.1,Q.out.2.2.1,Q.out.2.2.2.1,Q.out.2.2.2.2.1,Q.out.2.2.2.2.2⟩
   case measure=>first|(simp[intOf];done)|(simp[intOf];omega)
  ·obtain rfl:k=A.ls.length:=by omega
   have hlt2:¬(A.ls.length:Int)<A.ls.length:=by omega
   rw[mix_all]at HOk
   have HRw:=Lib.hid HOk.row
   have HGw:=HOk.hi
   have y0:wr.cell? ⟨w5.heap.size,0,none⟩=_:=(D5.out 0).trans z0
   have y1:wr.cell? ⟨w5.heap.size,1,none⟩=_:=(D5.out 1).trans z1
   have y2:wr.cell? ⟨w5.heap.size,2,none⟩=_:=(D5.out 2).trans z2
   have y3:wr.cell? ⟨w5.heap.size,3,none⟩=_:=(D5.out 3).trans z3
   have y4:wr.cell? ⟨w5.heap.size,4,none⟩=_:=(D5.out 4).trans z4
   have y5:wr.cell? ⟨w5.heap.size,5,none⟩=_:=(D5.out 5).trans z5
   have y6:wr.cell? ⟨w5.heap.size,6,none⟩=_:=(D5.out 6).trans z6
   have y7:wr.cell? ⟨w5.heap.size,7,none⟩=_:=(D5.out 7).trans z7
   have y8:wr.cell? ⟨w5.heap.size,8,none⟩=_:=(D5.out 8).trans z8
   have sw:=fun o=>(D4.out o).trans (SB9.out o)
   have lt4:w4.heap.size<wr.heap.size:=by omega
   clear HOk D1 D4 D5 KB9 SB9
   go_wp2_with fail
   refine(SX.out g5 c5 _ HRw.out HGw).mono ?_
   rintro e w10 ⟨hE,A3⟩
   have hl10:=A3.size
   have sv:=fun o=>(A3.cell (p:=⟨w4.heap.size,o,none⟩) lt4).trans (sw o)
   have hv10:Below w.heap.size w w10:=Below.trans Ar (A3.mono (by omega))
   have lt10:w4.heap.size<w10.heap.size:=by omega
   have n410:¬w4.heap.size=w10.heap.size:=by omega
   clear sw y0 y1 y2 y3 y4 y5 y6 y7 y8
   rcases hE with⟨q,hq,rfl⟩|⟨sB,rfl⟩
   ·have hq1:(q != 0)=true:=by simpa using hq
    clear hq
    unfold zeroSix
    repeat' (first|go_values|go_skip|go_guarded|go_step|go_upon|(simp only[];go_simp))
    go_ret
    exact⟨rfl,blw⟩
   have W3:=WS.out g5 c5 sB
   clear WS sB SX
   unfold Shr.val
   generalize shr (selA A k0 k1 k2 k3 (some ⟨g5,0,none⟩) c5)=u at *
   obtain⟨o1,o2,o3⟩:=W3
   have OV1:=Lib.hid (fun w=>overlap_any s.r0 s.r1 u.r0 u.r1 w)
   have OV2:=Lib.hid (fun w=>overlap_any s.t0 s.t1 u.t0 u.t1 w)
   have OV3:=Lib.hid (fun w=>overlap_any s.a0 s.a1 u.a0 u.a1 w)
   rw[decide_eq_true o1]at OV1
   rw[decide_eq_true o2]at OV2
   rw[decide_eq_true o3]at OV3
   clear o1 o2 o3
   go_wp2_with fail
   refine(OV1.out _).mono ?_
   rintro e w11 ⟨rfl,A7⟩
   obtain⟨C1,Bt,Bl,B7,Be⟩:=bl5 A7 (w4.heap.size)
   obtain⟨B4,B1,Ay,As,Av⟩:=bl5 A7 (w10.heap.size)
   go_wp2_with fail
   refine(OV2.out _).mono ?_
   rintro e w12 ⟨rfl,A8⟩
   obtain⟨C2,Bu,Bm,B8,Bf⟩:=bl5 A8 (w4.heap.size)
   obtain⟨B5,B2,Az,At,Aw⟩:=bl5 A8 (w10.heap.size)
   go_wp2_with fail
   refine(OV3.out _).mono ?_
   rintro e w13 ⟨rfl,A9⟩
   obtain⟨C3,Bv,Bn,B9,Bg⟩:=bl5 A9 (w4.heap.size)
   obtain⟨B6,B3,B0,Au,Ax⟩:=bl5 A9 (w10.heap.size)
   repeat' (first|go_values|go_skip|go_guarded|go_step|go_upon|(simp only[];go_simp))
   go_ret
   exact⟨rfl,blw⟩
end Go.Proofs.YticobgianbecpaaGreatDoor
