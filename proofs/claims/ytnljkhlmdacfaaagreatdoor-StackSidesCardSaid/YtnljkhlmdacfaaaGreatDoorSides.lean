/- StackSides: the walk. -/
import Derived.Test.YtnljkhlmdacfaaaGreatDoorSidesLaw
import Derived.Test.YtnljkhlmdacfaaaGreatDoorSameAsk
import Derived.Test.YtnljkhlmdacfaaaGreatDoorROther
import Derived.Test.YtnljkhlmdacfaaaGreatDoorRAsk
import Derived.Test.YtnljkhlmdacfaaaGreatDoorKStk
namespace Go.Proofs.YtnljkhlmdacfaaaGreatDoor
open Go Go.Sort Go.RowKit
theorem row_none (w:World):Row none [] w:=⟨fun j b hj=>by simp at hj⟩
theorem same_none (w:World):Calls Tryz.prog 53 #[zeroAsk,zeroAsk] w fun e w'=>e = .returned (.bool true)∧Below w.heap.size w w':=SameAsk_same noAsk (by decide) none none 0 0 w (row_none w) (row_none w)
theorem same_other (A:Ask) (hn:A.ls.length≤42) (p q:Option Addr) (c d:Nat) (w:World) (h1:Row p A.ls.reverse w) (h2:Row q A.ls.reverse w) :
  Calls Tryz.prog 53 #[(other A p c).val,(other A q d).val] w fun e w'=>e = .returned (.bool true)∧Below w.heap.size w w' :=
 SameAsk_same (other A p c) (by show A.ls.reverse.length≤1000000;rw[List.length_reverse];omega) p q c d w h1 h2
theorem copy_other (A:Ask) (hn:A.ls.length≤42) (p:Addr) (c:Nat) (w:World) (hr:Row (some p) A.ls.reverse w) :
  Calls Tryz.prog 18 #[(other A (some p) c).val] w fun E w'=>∃g c,E = .returned (other A (some ⟨g,0,none⟩) c).val∧Row (some ⟨g,0,none⟩) A.ls.reverse w'∧w.heap.size≤g∧g<w'.heap.size∧Below w.heap.size w w' :=
 CopyAsk_any (other A (some p) c) (fun h=>by cases h) (by show A.ls.reverse.length≤1000;rw[List.length_reverse];omega) w hr
theorem other_back (A:Ask) (hA:AskOk A) (h:otherQ A=0) (g c:Nat) (w:World) (hr:Row (some ⟨g,0,none⟩) A.ls.reverse w) :
  Calls Tryz.prog 51 #[(other A (some ⟨g,0,none⟩) c).val] w fun e w'=>∃p c,e = .returned (.tuple #[(A.mv (some p) c).val,.int .i64 0])∧Row (some p) A.ls w'∧Below w.heap.size w w':=by
 obtain⟨h1,h2⟩:=other_twice hA h (some ⟨g,0,none⟩) c
 refine(OtherSide_yes (other A (some ⟨g,0,none⟩) c) (other_ok hA h _ _) ⟨g,0,none⟩ rfl w hr h1).mono ?_
 rintro e w' ⟨p,c',rfl,k1,k2,k3,k4⟩
 refine⟨p,c',by rw[h2],?_,k4⟩
 have e1:(other A (some ⟨g,0,none⟩) c).ls.reverse=A.ls:=List.reverse_reverse A.ls
 rw[e1]at k1
 exact k1
theorem same_back (A:Ask) (hn:A.ls.length≤42) (p:Addr) (c:Nat) (w:World) (h1:Row (some p) A.ls w) (h2:Row A.pa A.ls w) :
  Calls Tryz.prog 53 #[(A.mv (some p) c).val,A.val] w fun e w'=>e = .returned (.bool true)∧Below w.heap.size w w':=SameAsk_same A (by omega) (some p) A.pa c A.cap w h1 h2
set_option maxRecDepth 100000 in
set_option maxHeartbeats 16000000 in
theorem sides_any (AW:Awake3) (A:Ask) (hp:A.pa=none→A.ls.length=0∧A.cap=0) (w:World) (hS:Std w) (hr:Row A.pa A.ls w) :
  Calls Tryz.prog 10 #[A.val] w fun e w'=>e = .returned (.bool true)∧Below w.heap.size w w':=by
 have AW:=Lib.hid AW
 have FW:=Lib.hid (fun w=>Few_any A w)
 have ST:=Lib.hid hS
 clear hS
 by_cases hn:A.ls.length≤42
 case neg =>
  have HN:=Lib.hid hn
  clear hr hp hn
  unfold Ask.val at FW ⊢
  generalize A.ls.length=len at *
  go_enter Tryz.func10,Tryz.ntmps10
  go_wp2_with fail
  refine(AW.out _ (ST.out.below blw)).mono ?_
  rintro e w1 ⟨rfl,An⟩
  obtain⟨Bb,B8,B5,Az,B2⟩:=bl5 An (w.heap.size)
  go_wp2_with fail
  refine(FW.out _).mono ?_
  rintro e w2 ⟨t,rfl,ht,Ao⟩
  obtain rfl:t=false:=by cases t;· rfl
                         ·exact absurd (ht rfl) HN.out
  obtain⟨Bc,B9,B6,B0,B3⟩:=bl5 Ao (w.heap.size)
  repeat' (first|go_values|go_skip|go_guarded|go_step|go_upon|(simp only[];go_simp))
  go_ret
  exact⟨rfl,blw⟩
 have CP:=Lib.hid (fun w hr=>CopyAsk_any A hp (by omega) w hr)
 have OS:=Lib.hid (fun g c w hr=>OtherSide_at A g c w hr)
 have RC:=Lib.hid (fun w hr=>rCheckAsk_any A w hr)
 have RN:=Lib.hid (fun hA w hr q hq h=>rOtherSide_no A hA w hr q hq h)
 have RY:=Lib.hid (fun hA h w hr=>rOtherSide_yes A hA h w hr)
 have SZ:=Lib.hid (fun w=>same_none w)
 have SO:=Lib.hid (fun p q c d w h1 h2=>same_other A hn p q c d w h1 h2)
 have CO:=Lib.hid (fun p c w hr=>copy_other A hn p c w hr)
 have OB:=Lib.hid (fun hA h g c w hr=>other_back A hA h g c w hr)
 have SB:=Lib.hid (fun p c w h1 h2=>same_back A hn p c w h1 h2)
 generalize ckI A=I at *
 have HR:=Lib.hid hr
 clear hr hp
 unfold Ask.mv at CP OS OB SB
 unfold other at SO CO OB
 unfold zeroAsk at SZ RN
 unfold Ask.val at CP FW OS RC RN RY SO CO OB SB ⊢
 simp only[List.length_reverse]at SO CO OB
 go_enter Tryz.func10,Tryz.ntmps10
 go_wp2_with fail
 refine(AW.out _ (ST.out.below blw)).mono ?_
 rintro e w1 ⟨rfl,An⟩
 clear AW ST
 obtain⟨Bb,B8,B5,Az,B2⟩:=bl5 An (w.heap.size)
 go_wp2_with fail
 refine(FW.out _).mono ?_
 rintro e w2 ⟨t,rfl,ht,Ao⟩
 clear ht
 obtain⟨Bc,B9,B6,B0,B3⟩:=bl5 Ao (w.heap.size)
 cases t
 ·repeat' (first|go_values|go_skip|go_guarded|go_step|go_upon|(simp only[];go_simp))
  go_ret
  exact⟨rfl,blw⟩
 go_wp2_with fail
 refine(CP.out _ (HR.out.bel blw)).mono ?_
 rintro e w3 ⟨g3,c3,rfl,hr3,hl3,hh3,Bf⟩
 obtain⟨C4,C0,Bw,Bo,Bs⟩:=bl5 Bf (w.heap.size)
 go_wp2_with fail
 refine(OS.out g3 c3 _ hr3).mono ?_
 rintro e w4 ⟨hE,Bg⟩
 clear hr3
 obtain⟨C5,C1,Bx,Bp,Bt⟩:=bl5 Bg (w.heap.size)
 unfold SideRet at hE
 rcases hE with⟨hc,rfl⟩|⟨oA,hc,oq,rfl⟩|⟨oA,hc,oq,p,c4,rfl,hr4,hl4,hh4⟩
 ·have hQ1:(ckQ A==0)=false:=by simpa using hc
  have hQ2:(ckQ A != 0)=true:=by simpa using hc
  unfold zeroAsk
  generalize ckQ A=Q at *
  clear hc
  go_wp2_with fail
  refine(RC.out _ (HR.out.bel blw)).mono ?_
  rintro e w5 ⟨rfl,A1⟩
  obtain⟨Al,Aj,Ah,Ad,Af⟩:=bl5 A1 (w.heap.size)
  obtain⟨Ab,A9,A7,A3,A5⟩:=bl5 A1 (w4.heap.size)
  go_wp2_with fail
  refine(SZ.out _).mono ?_
  rintro e w6 ⟨rfl,A0⟩
  obtain⟨Am,Ak,Ai,Ae,Ag⟩:=bl5 A0 (w.heap.size)
  obtain⟨Ac,Aa,A8,A4,A6⟩:=bl5 A0 (w4.heap.size)
  repeat' (first|go_values|go_skip|go_guarded|go_step|go_upon|(simp only[];go_simp))
  go_ret
  exact⟨rfl,blw⟩
 ·have hQ1:(otherQ A==0)=false:=by simpa using oq
  have hQ2:(otherQ A != 0)=true:=by simpa using oq
  have RN:=Lib.hid (fun w hr=>RN.out oA w hr (otherQ A) rfl oq)
  rw[hc]at RC
  unfold zeroAsk
  generalize otherQ A=Q at *
  clear hc oq oA
  go_wp2_with fail
  refine(RC.out _ (HR.out.bel blw)).mono ?_
  rintro e w5 ⟨rfl,A1⟩
  obtain⟨Al,Aj,Ah,Ad,Af⟩:=bl5 A1 (w.heap.size)
  obtain⟨Ab,A9,A7,A3,A5⟩:=bl5 A1 (w4.heap.size)
  go_wp2_with fail
  refine(RN.out _ (HR.out.bel blw)).mono ?_
  rintro e w6 ⟨rfl,A0⟩
  obtain⟨Am,Ak,Ai,Ae,Ag⟩:=bl5 A0 (w.heap.size)
  obtain⟨Ac,Aa,A8,A4,A6⟩:=bl5 A0 (w4.heap.size)
  obtain⟨Ax,Av,At,Ap,Ar⟩:=bl5 A0 (w5.heap.size)
  go_wp2_with fail
  refine(SZ.out _).mono ?_
  rintro e w7 ⟨rfl,A2⟩
  obtain⟨Bd,Ba,B7,B1,B4⟩:=bl5 A2 (w.heap.size)
  obtain⟨Ay,Aw,Au,Aq,As⟩:=bl5 A2 (w4.heap.size)
  repeat' (first|go_values|go_skip|go_guarded|go_step|go_upon|(simp only[];go_simp))
  go_ret
  exact⟨rfl,blw⟩
 ·have RY:=Lib.hid (fun w hr=>RY.out oA oq w hr)
  have OB:=Lib.hid (fun g c w hr=>OB.out oA oq g c w hr)
  rw[hc]at RC
  unfold other Ask.val
  simp only[List.length_reverse]
  unfold other at RY
  simp only[List.length_reverse]at RY
  clear hc oq oA
  go_wp2_with fail
  refine(RC.out _ (HR.out.bel blw)).mono ?_
  rintro e w5 ⟨rfl,A1⟩
  obtain⟨Al,Aj,Ah,Ad,Af⟩:=bl5 A1 (w.heap.size)
  obtain⟨Ab,A9,A7,A3,A5⟩:=bl5 A1 (w4.heap.size)
  go_wp2_with fail
  refine(RY.out _ (HR.out.bel blw)).mono ?_
  rintro e w6 ⟨p6,c6,rfl,hr6,hp6,A0⟩
  obtain⟨Am,Ak,Ai,Ae,Ag⟩:=bl5 A0 (w.heap.size)
  obtain⟨Ac,Aa,A8,A4,A6⟩:=bl5 A0 (w4.heap.size)
  obtain⟨Ax,Av,At,Ap,Ar⟩:=bl5 A0 (w5.heap.size)
  have RS:=Lib.hid (fun(w':World) (h:Row p6 A.ls.reverse w') (o:Nat) (v:Value)=>h.set (q:=⟨w5.heap.size,o,none⟩) (fun a h _=>by have hk:=hp6 a h;(try simp at hk);show a.block≠w5.heap.size;omega) v)
  clear hp6
  go_wp2_with fail
  refine(SO.out (some p) p6 c4 c6 _ (hr4.bel blw) (by repeat (first|(with_reducible exact hr6)|(with_reducible refine RS.out _ ?_ _ _)))).mono ?_
  rintro e w7 ⟨rfl,A2⟩
  obtain⟨Bd,Ba,B7,B1,B4⟩:=bl5 A2 (w.heap.size)
  obtain⟨Ay,Aw,Au,Aq,As⟩:=bl5 A2 (w4.heap.size)
  go_wp2_with fail
  refine(CO.out p c4 _ (hr4.bel blw)).mono ?_
  rintro e w8 ⟨g8,c8,rfl,hr8,hl8,hh8,Bh⟩
  obtain⟨C6,C2,By,Bq,Bu⟩:=bl5 Bh (w.heap.size)
  go_wp2_with fail
  refine(OB.out g8 c8 _ hr8).mono ?_
  rintro e w9 ⟨p9,c9,rfl,hr9,Bi⟩
  obtain⟨C7,C3,Bz,Br,Bv⟩:=bl5 Bi (w.heap.size)
  go_wp2_with fail
  refine(SB.out p9 c9 _ (hr9.bel blw) (HR.out.bel blw)).mono ?_
  rintro e w10 ⟨rfl,Be⟩
  obtain⟨Bn,Bm,Bl,Bj,Bk⟩:=bl5 Be (w.heap.size)
  repeat' (first|go_values|go_skip|go_guarded|go_step|go_upon|(simp only[];go_simp))
  go_ret
  exact⟨rfl,blw⟩
end Go.Proofs.YtnljkhlmdacfaaaGreatDoor
