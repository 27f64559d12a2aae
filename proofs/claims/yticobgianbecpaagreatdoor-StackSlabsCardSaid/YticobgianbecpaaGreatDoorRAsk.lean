/- Which asks are right, exactly: the reference's walks. -/
import Derived.Test.YticobgianbecpaaGreatDoorKAsk
import Derived.Test.YticobgianbecpaaGreatDoorKRef
namespace Go.Proofs.YticobgianbecpaaGreatDoor
open Go Go.Sort Go.RowKit
theorem both3_any (a b lo hi:Int) (w:World):Calls Tryz.prog 113 #[.agg #[.int .i64 a,.int .i64 b],.int .i64 lo,.int .i64 hi] w fun e w'=>e = .returned (.bool (inR a lo hi&&inR b lo hi))∧Below w.heap.size w w':=by
 obtain⟨t,ht⟩:∃t,inR a lo hi=t:=⟨_,rfl⟩
 obtain⟨u,hu⟩:∃u,inR b lo hi=u:=⟨_,rfl⟩
 have CA:=Lib.hid (fun w=>r7within_is a lo hi t w ht)
 have CB:=Lib.hid (fun w=>r7within_is b lo hi u w hu)
 rw[ht,hu]
 clear ht hu
 cases t
 ·rw[Bool.false_and]
  go_enter Tryz.func113,Tryz.ntmps113
  go_wp2_with fail
  refine(CA.out _).mono ?_
  rintro e w' ⟨rfl,rfl⟩
  repeat' (first|go_values|go_skip|go_guarded|go_step|go_upon|(simp only[];go_simp))
  go_ret
  exact⟨rfl,blw⟩
 ·rw[Bool.true_and]
  go_enter Tryz.func113,Tryz.ntmps113
  go_wp2_with fail
  refine(CA.out _).mono ?_
  rintro e w' ⟨rfl,rfl⟩
  go_wp2_with fail
  refine(CB.out _).mono ?_
  rintro e w' ⟨rfl,rfl⟩
  repeat' (first|go_values|go_skip|go_guarded|go_step|go_upon|(simp only[];go_simp))
  go_ret
  exact⟨rfl,blw⟩
theorem r3idx_any (n:Int) (w:World):Calls Tryz.prog 112 #[.int .i64 n] w fun e w'=>e = .returned (.bool (inR n 5000 80000))∧w'=w:=by
 have C:=Lib.hid (fun w=>r7within_is n 5000 80000 _ w rfl)
 go_enter Tryz.func112,Tryz.ntmps112
 go_wp2_with (go_at_call 14;refine(C.out _).mono ?_;rintro e w' ⟨rfl,rfl⟩)
 go_ret
 exact⟨rfl,rfl⟩
theorem r3loss_any (n:Int) (w:World):Calls Tryz.prog 115 #[.int .i64 n] w fun e w'=>e = .returned (.bool (inR n 0 80000))∧w'=w:=by
 have C:=Lib.hid (fun w=>r7within_is n 0 80000 _ w rfl)
 go_enter Tryz.func115,Tryz.ntmps115
 go_wp2_with (go_at_call 14;refine(C.out _).mono ?_;rintro e w' ⟨rfl,rfl⟩)
 go_ret
 exact⟨rfl,rfl⟩
theorem boxQ_bool (b:Box):boxQ b=if ((inR b.il 5000 80000&&inR b.ih 5000 80000)&&(inR b.tl 0 1000000&&inR b.th 0 1000000)&&inR b.lo 0 80000)=true then(if b.ih<b.il∨b.th<b.tl then 10 else 0)else 2:=by
 unfold boxQ
 simp only[Bool.and_eq_true,and_assoc]
set_option maxHeartbeats 8000000 in
theorem rBoxErr_any (b:Box) (w:World):Calls Tryz.prog 114 #[.agg #[.int .i64 b.il,.int .i64 b.ih,.int .i64 b.tl,.int .i64 b.th,.int .i64 b.lo]] w fun e w'=>e = .returned (.int .i64 (boxQ b))∧Below w.heap.size w w':=by
 rw[boxQ_bool]
 have C1:=fun w=>both3_any b.il b.ih 5000 80000 w
 have C2:=fun w=>both3_any b.tl b.th 0 1000000 w
 have C3:=fun w=>r3loss_any b.lo w
 generalize (inR b.il 5000 80000&&inR b.ih 5000 80000)=t1 at *
 generalize (inR b.tl 0 1000000&&inR b.th 0 1000000)=t2 at *
 generalize inR b.lo 0 80000=t3 at *
 have C1:=Lib.hid C1
 have C2:=Lib.hid C2
 have C3:=Lib.hid C3
 cases t1
 case false =>
  simp only[Bool.false_and,Bool.false_eq_true,if_false]
  go_enter Tryz.func114,Tryz.ntmps114
  go_wp2_with fail
  refine(C1.out _).mono ?_
  rintro e w1 ⟨rfl,A0⟩
  have A1:=A0.size
  (try simp at A1)
  have A4:=bl5 A0 (w.heap.size)
  repeat' (first|go_values|go_skip|go_guarded|go_step|go_upon|(simp only[];go_simp))
  go_ret
  exact⟨rfl,blw⟩
 cases t2
 case false =>
  simp only[Bool.and_false,Bool.false_and,Bool.false_eq_true,if_false]
  go_enter Tryz.func114,Tryz.ntmps114
  go_wp2_with fail
  refine(C1.out _).mono ?_
  rintro e w1 ⟨rfl,A0⟩
  have A1:=A0.size
  (try simp at A1)
  have A4:=bl5 A0 (w.heap.size)
  go_wp2_with fail
  refine(C2.out _).mono ?_
  rintro e w2 ⟨rfl,A2⟩
  have A3:=A2.size
  (try simp at A3)
  have A5:=bl5 A2 (w.heap.size)
  repeat' (first|go_values|go_skip|go_guarded|go_step|go_upon|(simp only[];go_simp))
  go_ret
  exact⟨rfl,blw⟩
 cases t3
 case false =>
  simp only[Bool.and_false,Bool.false_eq_true,if_false]
  go_enter Tryz.func114,Tryz.ntmps114
  go_wp2_with fail
  refine(C1.out _).mono ?_
  rintro e w1 ⟨rfl,A0⟩
  have A1:=A0.size
  (try simp at A1)
  have A4:=bl5 A0 (w.heap.size)
  go_wp2_with fail
  refine(C2.out _).mono ?_
  rintro e w2 ⟨rfl,A2⟩
  have A3:=A2.size
  (try simp at A3)
  have A5:=bl5 A2 (w.heap.size)
  go_wp2_with fail
  refine(C3.out _).mono ?_
  rintro e w' ⟨rfl,rfl⟩
  repeat' (first|go_values|go_skip|go_guarded|go_step|go_upon|(simp only[];go_simp))
  go_ret
  exact⟨rfl,blw⟩
 simp only[Bool.and_self,if_true]
 by_cases d0:b.ih<b.il
 ·rw[if_pos (.inl d0)]
  go_enter Tryz.func114,Tryz.ntmps114
  go_wp2_with fail
  refine(C1.out _).mono ?_
  rintro e w1 ⟨rfl,A0⟩
  have A1:=A0.size
  (try simp at A1)
  have A4:=bl5 A0 (w.heap.size)
  go_wp2_with fail
  refine(C2.out _).mono ?_
  rintro e w2 ⟨rfl,A2⟩
  have A3:=A2.size
  (try simp at A3)
  have A5:=bl5 A2 (w.heap.size)
  go_wp2_with fail
  refine(C3.out _).mono ?_
  rintro e w' ⟨rfl,rfl⟩
  repeat' (first|go_values|go_skip|go_guarded|go_step|go_upon|(simp only[];go_simp))
  go_ret
  exact⟨rfl,blw⟩
 by_cases d1:b.th<b.tl
 ·rw[if_pos (.inr d1)]
  go_enter Tryz.func114,Tryz.ntmps114
  go_wp2_with fail
  refine(C1.out _).mono ?_
  rintro e w1 ⟨rfl,A0⟩
  have A1:=A0.size
  (try simp at A1)
  have A4:=bl5 A0 (w.heap.size)
  go_wp2_with fail
  refine(C2.out _).mono ?_
  rintro e w2 ⟨rfl,A2⟩
  have A3:=A2.size
  (try simp at A3)
  have A5:=bl5 A2 (w.heap.size)
  go_wp2_with fail
  refine(C3.out _).mono ?_
  rintro e w' ⟨rfl,rfl⟩
  repeat' (first|go_values|go_skip|go_guarded|go_step|go_upon|(simp only[];go_simp))
  go_ret
  exact⟨rfl,blw⟩
 rw[if_neg (by omega)]
 go_enter Tryz.func114,Tryz.ntmps114
 go_wp2_with fail
 refine(C1.out _).mono ?_
 rintro e w1 ⟨rfl,A0⟩
 have A1:=A0.size
 (try simp at A1)
 have A4:=bl5 A0 (w.heap.size)
 go_wp2_with fail
 refine(C2.out _).mono ?_
 rintro e w2 ⟨rfl,A2⟩
 have A3:=A2.size
 (try simp at A3)
 have A5:=bl5 A2 (w.heap.size)
 go_wp2_with fail
 refine(C3.out _).mono ?_
 rintro e w' ⟨rfl,rfl⟩
 repeat' (first|go_values|go_skip|go_guarded|go_step|go_upon|(simp only[];go_simp))
 go_ret
 exact⟨rfl,blw⟩
@[irreducible] def lightQ (A:Ask):Int :=
 if (inR A.ix 5000 80000&&(inR A.sl 0 9999&&inR A.sh 0 9999))=true then
  if A.sh<A.sl then 10
  else if A.po=0∨A.po=1 then
   if (inR A.wl 1000 200000&&inR A.wh 1000 200000)=true then(if A.wh<A.wl then 10 else 0)else 2
  else 11
 else 2
set_option maxHeartbeats 8000000 in
theorem rLightErr_any (A:Ask) (w:World):Calls Tryz.prog 48 #[A.val] w fun e w'=>e = .returned (.int .i64 (lightQ A))∧Below w.heap.size w w':=by
 unfold lightQ Ask.val
 have C1:=fun w=>r3idx_any A.ix w
 have C2:=fun w=>both3_any A.sl A.sh 0 9999 w
 have C3:=fun w=>both3_any A.wl A.wh 1000 200000 w
 generalize inR A.ix 5000 80000=t1 at *
 generalize (inR A.sl 0 9999&&inR A.sh 0 9999)=t2 at *
 generalize (inR A.wl 1000 200000&&inR A.wh 1000 200000)=t3 at *
 have C1:=Lib.hid C1
 have C2:=Lib.hid C2
 have C3:=Lib.hid C3
 generalize A.ls.length=len at *
 cases t1
 case false =>
  simp only[Bool.false_and,Bool.false_eq_true,if_false]
  go_enter Tryz.func48,Tryz.ntmps48
  go_wp2_with fail
  refine(C1.out _).mono ?_
  rintro e w' ⟨rfl,rfl⟩
  repeat' (first|go_values|go_skip|go_guarded|go_step|go_upon|(simp only[];go_simp))
  go_ret
  exact⟨rfl,blw⟩
 cases t2
 case false =>
  simp only[Bool.and_false,Bool.false_eq_true,if_false]
  go_enter Tryz.func48,Tryz.ntmps48
  go_wp2_with fail
  refine(C1.out _).mono ?_
  rintro e w' ⟨rfl,rfl⟩
  go_wp2_with fail
  refine(C2.out _).mono ?_
  rintro e w1 ⟨rfl,A0⟩
  have A1:=A0.size
  (try simp at A1)
  repeat' (first|go_values|go_skip|go_guarded|go_step|go_upon|(simp only[];go_simp))
  go_ret
  exact⟨rfl,blw⟩
 simp only[Bool.and_self,if_true]
 by_cases d0:A.sh<A.sl
 ·rw[if_pos d0]
  go_enter Tryz.func48,Tryz.ntmps48
  go_wp2_with fail
  refine(C1.out _).mono ?_
  rintro e w' ⟨rfl,rfl⟩
  go_wp2_with fail
  refine(C2.out _).mono ?_
  rintro e w1 ⟨rfl,A0⟩
  have A1:=A0.size
  (try simp at A1)
  have A4:=bl5 A0 (w.heap.size)
  repeat' (first|go_values|go_skip|go_guarded|go_step|go_upon|(simp only[];go_simp))
  go_ret
  exact⟨rfl,blw⟩
 rw[if_neg d0]
 by_cases p:A.po=0∨A.po=1
 case neg =>
  rw[if_neg p]
  have p0:(A.po != 0)=true:=by simpa using fun h=>p (.inl h)
  have p1:(A.po != 1)=true:=by simpa using fun h=>p (.inr h)
  clear p
  go_enter Tryz.func48,Tryz.ntmps48
  go_wp2_with fail
  refine(C1.out _).mono ?_
  rintro e w' ⟨rfl,rfl⟩
  go_wp2_with fail
  refine(C2.out _).mono ?_
  rintro e w1 ⟨rfl,A0⟩
  have A1:=A0.size
  (try simp at A1)
  have A4:=bl5 A0 (w.heap.size)
  repeat' (first|go_values|go_skip|go_guarded|go_step|go_upon|(simp only[];go_simp))
  go_ret
  exact⟨rfl,blw⟩
 rw[if_pos p]
 have pp:(A.po != 0)=false∨((A.po != 0)=true∧(A.po != 1)=false):=by
  rcases p with p|p
  ·left;simp[p]
  ·right;simp[p]
 clear p
 cases t3
 case false =>
  rw[if_neg (by decide)]
  rcases pp with p0|⟨p0,p1⟩
  all_goals
   go_enter Tryz.func48,Tryz.ntmps48
   go_wp2_with fail
   refine(C1.out _).mono ?_
   rintro e w' ⟨rfl,rfl⟩
   go_wp2_with fail
   refine(C2.out _).mono ?_
   rintro e w1 ⟨rfl,A0⟩
   have A1:=A0.size
   (try simp at A1)
   have A4:=bl5 A0 (w.heap.size)
   go_wp2_with fail
   refine(C3.out _).mono ?_
   rintro e w2 ⟨rfl,A2⟩
   have A3:=A2.size
   (try simp at A3)
   repeat' (first|go_values|go_skip|go_guarded|go_step|go_upon|(simp only[];go_simp))
   go_ret
   exact⟨rfl,blw⟩
 rw[if_pos rfl]
 by_cases d1:A.wh<A.wl
 ·rw[if_pos d1]
  rcases pp with p0|⟨p0,p1⟩
  all_goals
   go_enter Tryz.func48,Tryz.ntmps48
   go_wp2_with fail
   refine(C1.out _).mono ?_
   rintro e w' ⟨rfl,rfl⟩
   go_wp2_with fail
   refine(C2.out _).mono ?_
   rintro e w1 ⟨rfl,A0⟩
   have A1:=A0.size
   (try simp at A1)
   have A4:=bl5 A0 (w.heap.size)
   go_wp2_with fail
   refine(C3.out _).mono ?_
   rintro e w2 ⟨rfl,A2⟩
   have A3:=A2.size
   (try simp at A3)
   have A5:=bl5 A2 (w.heap.size)
   repeat' (first|go_values|go_skip|go_guarded|go_step|go_upon|(simp only[];go_simp))
   go_ret
   exact⟨rfl,blw⟩
 rw[if_neg d1]
 rcases pp with p0|⟨p0,p1⟩
 all_goals
  go_enter Tryz.func48,Tryz.ntmps48
  go_wp2_with fail
  refine(C1.out _).mono ?_
  rintro e w' ⟨rfl,rfl⟩
  go_wp2_with fail
  refine(C2.out _).mono ?_
  rintro e w1 ⟨rfl,A0⟩
  have A1:=A0.size
  (try simp at A1)
  have A4:=bl5 A0 (w.heap.size)
  go_wp2_with fail
  refine(C3.out _).mono ?_
  rintro e w2 ⟨rfl,A2⟩
  have A3:=A2.size
  (try simp at A3)
  have A5:=bl5 A2 (w.heap.size)
  repeat' (first|go_values|go_skip|go_guarded|go_step|go_upon|(simp only[];go_simp))
  go_ret
  exact⟨rfl,blw⟩
theorem light_bad {A:Ask} (h:¬lightQ A=0):ckI A=0∧ckQ A=lightQ A:=by
 by_cases g0:inR A.ix 5000 80000=true
 case neg =>
  have e:lightQ A=2:=by unfold lightQ;rw[if_neg (by simp[g0])]
  rw[e];exact ckIQ (askT_1 g0)
 by_cases g1:inR A.sl 0 9999=true∧inR A.sh 0 9999=true
 case neg =>
  have e:lightQ A=2:=by unfold lightQ;rw[if_neg (by simp only[Bool.and_eq_true];exact fun k=>g1 k.2)]
  have r:rangeQ A.sl A.sh 0 9999=2:=rangeQ_far g1
  rw[e]
  have:=ckIQ (askT_2 g0 (by rw[r];decide))
  rw[r]at this
  exact this
 have e1:(inR A.ix 5000 80000&&(inR A.sl 0 9999&&inR A.sh 0 9999))=true:=by simp[g0,g1.1,g1.2]
 by_cases d0:A.sh<A.sl
 ·have e:lightQ A=10:=by unfold lightQ;rw[if_pos e1,if_pos d0]
  have r:rangeQ A.sl A.sh 0 9999=10:=rangeQ_order g1.1 g1.2 d0
  rw[e]
  have:=ckIQ (askT_2 g0 (by rw[r];decide))
  rw[r]at this
  exact this
 have r:=rangeQ_ok g1.1 g1.2 d0
 by_cases p:A.po=0∨A.po=1
 case neg =>
  have e:lightQ A=11:=by unfold lightQ;rw[if_pos e1,if_neg d0,if_neg p]
  rw[e]
  exact ckIQ (askT_3 g0 r (fun k=>p (by have:=inR_yes.1 k;omega)))
 have pi:inR A.po 0 1=true:=inR_yes.2 (by omega)
 by_cases g2:inR A.wl 1000 200000=true∧inR A.wh 1000 200000=true
 case neg =>
  have e:lightQ A=2:=by unfold lightQ;rw[if_pos e1,if_neg d0,if_pos p,if_neg (by simp only[Bool.and_eq_true];exact g2)]
  have r2:rangeQ A.wl A.wh 1000 200000=2:=rangeQ_far g2
  rw[e]
  have:=ckIQ (askT_4 g0 r pi (by rw[r2];decide))
  rw[r2]at this
  exact this
 by_cases d1:A.wh<A.wl
 ·have e:lightQ A=10:=by unfold lightQ;rw[if_pos e1,if_neg d0,if_pos p,if_pos (by simp[g2.1,g2.2]),if_pos d1]
  have r2:rangeQ A.wl A.wh 1000 200000=10:=rangeQ_order g2.1 g2.2 d1
  rw[e]
  have:=ckIQ (askT_4 g0 r pi (by rw[r2];decide))
  rw[r2]at this
  exact this
 ·exact absurd (by unfold lightQ;rw[if_pos e1,if_neg d0,if_pos p,if_pos (by simp[g2.1,g2.2]),if_neg d1]) h
theorem light_ok {A:Ask} (h:lightQ A=0):AskHead A:=by
 unfold lightQ at h
 split at h
 case isFalse=>exact absurd h (by decide)
 rename_i e1
 simp only[Bool.and_eq_true]at e1
 split at h
 ·exact absurd h (by decide)
 rename_i d0
 split at h
 case isFalse=>exact absurd h (by decide)
 rename_i p
 split at h
 case isFalse=>exact absurd h (by decide)
 rename_i e2
 simp only[Bool.and_eq_true]at e2
 split at h
 ·exact absurd h (by decide)
 rename_i d1
 exact⟨e1.1,rangeQ_ok e1.2.1 e1.2.2 d0,inR_yes.2 (by omega),rangeQ_ok e2.1 e2.2 d1⟩
def layT (ls:List Box) (oi ol:Int):Int × Int :=
 if 40<ls.length then(0,8)else if (firstQ ls 0).2=0 then(if inR oi 5000 80000=true∧inR ol 0 80000=true then(0,0)else(0,2))else((firstQ ls 0).1+1,(firstQ ls 0).2)
theorem layT_is {A:Ask} (h:AskHead A):(layT A.ls A.oi A.ol).1=ckI A∧(layT A.ls A.oi A.ol).2=ckQ A:=by
 have e:askT A=layT A.ls A.oi A.ol:=by unfold askT layT;rw[if_pos h.h,if_pos h.k,if_pos h.l,if_pos h.m]
 have:=ckIQ e
 exact⟨this.1.symm,this.2.symm⟩
theorem layT_out {ls:List Box}{oi ol:Int} (c:40<ls.length):layT ls oi ol=(0,8):=by unfold layT;rw[if_pos c]
theorem layT_bad {ls:List Box}{oi ol:Int}{k:Nat}{b:Box}{q:Int}{T:Int × Int} (c:¬40<ls.length) (h:HidF ls T k) (hb:ls[k]?=some b) (h0:boxQ b=q) (hq:q≠0) (h1:HidF ls T 0):layT ls oi ol=((k:Int)+1,q):=by
 obtain⟨z1,z2⟩:=hidF_no h hb h0 hq h1
 unfold layT
 rw[if_neg c,if_neg (by rw[z2];exact hq),z1,z2]
theorem layT_sub {ls:List Box}{oi ol:Int}{k:Nat}{T:Int × Int} (c:¬40<ls.length) (h:HidF ls T k) (hk:k=ls.length) (h1:HidF ls T 0):layT ls oi ol=(if (inR oi 5000 80000&&inR ol 0 80000)=true then(0,0)else(0,2)):=by
 unfold layT
 rw[if_neg c,if_pos (hidF_all h hk h1)]
 simp only[Bool.and_eq_true]
set_option maxRecDepth 100000 in
set_option maxHeartbeats 8000000 in
theorem rLayersErr_any (pa:Option Addr) (ls:List Box) (cap:Nat) (oi ol:Int) (w:World) (hr:Row pa ls w) :
  Calls Tryz.prog 49 #[.slice pa ls.length cap,.agg #[.int .i64 oi,.int .i64 ol]] w fun e w'=>e = .returned (.tuple #[.int .i64 (layT ls oi ol).1,.int .i64 (layT ls oi ol).2])∧Below w.heap.size w w':=by
 by_cases c:40<ls.length
 ·rw[layT_out c]
  have d:(40:Int)<ls.length:=by omega
  clear hr
  generalize ls.length=len at *
  go_enter Tryz.func49,Tryz.ntmps49
  repeat' (first|go_values|go_skip|go_guarded|go_step|go_upon|(simp only[];go_simp))
  go_ret2
  exact⟨rfl,blw⟩
 obtain⟨T,hT⟩:∃T,HidF ls T 0:=⟨_,rfl⟩
 have BE:=Lib.hid (fun b w=>rBoxErr_any b w)
 have BA:=Lib.hid (fun k b q h hb h0 hq=>layT_bad (oi:=oi) (ol:=ol) (k:=k) (b:=b) (q:=q) c h hb h0 hq hT)
 have SU:=Lib.hid (fun k h hk=>layT_sub (oi:=oi) (ol:=ol) (k:=k) c h hk hT)
 have d:¬(40:Int)<ls.length:=by omega
 have hl:¬40<ls.length:=c
 have HR:=Lib.hid hr
 clear hr c
 generalize hX:layT ls oi ol=X at *
 clear hX
 obtain⟨I,Q⟩:=X
 dsimp only
 go_enter Tryz.func49,Tryz.ntmps49
 go_wp2_with fail
 go_loopw [6] (fun i wr=>∃k:Nat,k≤ls.length∧i = .int .i64 k∧Below w.heap.size w wr∧w.heap.size<wr.heap.size∧(∀o,wr.cell? ⟨w.heap.size,o,none⟩=(#[.int .i64 oi,.int .i64 ol]:Array Value)[o]?)∧HidF ls T k) (fun i _=>ls.length-(intOf i).toNat)
 case atStart=>exact⟨0,by omega,rfl,blw,by first|omega|(simp;done)|(simp;omega),fun o=>by go_simp,hT⟩
 case round =>
  obtain⟨k,hk,rfl,A8,Ab,Aa,HF⟩:=hrel
  by_cases hlt:k<ls.length
  ·obtain⟨b,hb⟩:∃b,ls[k]?=some b:=⟨_,List.getElem?_eq_getElem hlt⟩
   obtain⟨a,ha,hal,hE⟩:=HR.out.get k b hb
   subst ha
   have hE:=boxAt.bel hE A8 hal
   obtain⟨E1,E2,E3,E4,E5⟩:=hE
   have hal2:(a.add (k*5)).block<wr.heap.size:=by have:=A8.size;omega
   have hlt2:(k:Int)<ls.length:=by omega
   have B0:=fun w=>BE.out b w
   by_cases q0:boxQ b=0
   ·have HN:=Lib.hid (hidF_next HF hb q0)
    rw[q0]at B0
    have B0:=Lib.hid B0
    clear HF hT hb HR q0
    go_wp2_with fail
    refine(B0.out _).mono ?_
    rintro e w21 ⟨rfl,A6⟩
    have A7:=A6.size
    (try simp at A7)
    have A9:=bl5 A6 (w.heap.size)
    go_wp2_with fail
    go_roundw
    case rel=>exact⟨k+1,by omega,by first|(simp;done)|(simp;omega),blw,by first|omega|(simp;done)|(simp;omega),fun o=>by go_simp,HN.out⟩
    case measure=>simp[intOf];omega
   ·obtain⟨q,hqe⟩:∃q,boxQ b=q:=⟨_,rfl⟩
    have e:=BA.out k b q HF hb hqe (by rw[← hqe];exact q0)
    rw[hqe]at B0 q0
    clear hqe
    injection e with e1 e2
    subst e1;subst e2
    have q1:(Q != 0)=true:=by simpa using q0
    have B0:=Lib.hid B0
    have hw:wrap64 ((k:Int)+1)=k+1:=IntWalk.wrap64_in _ ⟨by omega,by omega⟩
    have hw2:IntKind.i64.wrap ((k:Int)+1)=k+1:=IntWalk.i64_in _ ⟨by omega,by omega⟩
    clear HF hT hb HR q0 BA SU hl
    go_wp2_with fail
    refine(B0.out _).mono ?_
    rintro e w21 ⟨rfl,A6⟩
    have A7:=A6.size
    (try simp at A7)
    repeat' (first|go_values|go_skip|go_guarded|go_step|go_upon|(simp only[];go_simp))
    go_ret2
    exact⟨rfl,blw⟩
  ·have hke:k=ls.length:=by omega
   have hlt2:¬(k:Int)<ls.length:=by omega
   have e:=SU.out k HF hke
   have C1:=fun w=>r3idx_any oi w
   have C2:=fun w=>r3loss_any ol w
   generalize inR oi 5000 80000=t1 at *
   generalize inR ol 0 80000=t2 at *
   have C1:=Lib.hid C1
   have C2:=Lib.hid C2
   clear hke BA SU HF hT HR BE
   cases t1
   ·rw[Bool.false_and,if_neg (by decide)]at e
    injection e with e1 e2
    subst e1;subst e2
    go_wp2_with fail
    refine(C1.out _).mono ?_
    rintro e w' ⟨rfl,rfl⟩
    repeat' (first|go_values|go_skip|go_guarded|go_step|go_upon|(simp only[];go_simp))
    go_ret2
    exact⟨rfl,blw⟩
   cases t2
   ·rw[Bool.and_false,if_neg (by decide)]at e
    injection e with e1 e2
    subst e1;subst e2
    go_wp2_with fail
    refine(C1.out _).mono ?_
    rintro e w' ⟨rfl,rfl⟩
    go_wp2_with fail
    refine(C2.out _).mono ?_
    rintro e w' ⟨rfl,rfl⟩
    repeat' (first|go_values|go_skip|go_guarded|go_step|go_upon|(simp only[];go_simp))
    go_ret2
    exact⟨rfl,blw⟩
   rw[Bool.and_self,if_pos rfl]at e
   injection e with e1 e2
   subst e1;subst e2
   go_wp2_with fail
   refine(C1.out _).mono ?_
   rintro e w' ⟨rfl,rfl⟩
   go_wp2_with fail
   refine(C2.out _).mono ?_
   rintro e w' ⟨rfl,rfl⟩
   repeat' (first|go_values|go_skip|go_guarded|go_step|go_upon|(simp only[];go_simp))
   go_ret2
   exact⟨rfl,blw⟩
theorem rCheckAsk_any (A:Ask) (w:World) (hr:Row A.pa A.ls w):Calls Tryz.prog 12 #[A.val] w fun e w'=>e = .returned (.tuple #[.int .i64 (ckI A),.int .i64 (ckQ A)])∧Below w.heap.size w w':=by
 have LE:=fun w=>rLightErr_any A w
 by_cases h:lightQ A=0
 ·obtain⟨e1,e2⟩:=layT_is (light_ok h)
  have LY:=fun w hr=>rLayersErr_any A.pa A.ls A.cap A.oi A.ol w hr
  rw[e1,e2]at LY
  rw[h]at LE
  unfold Ask.val at LE ⊢
  generalize ckI A=I at *
  generalize ckQ A=Q at *
  have LE:=Lib.hid LE
  have LY:=Lib.hid LY
  have HR:=Lib.hid hr
  clear hr h e1 e2
  generalize A.ls.length=len at *
  go_enter Tryz.func12,Tryz.ntmps12
  go_wp2_with fail
  refine(LE.out _).mono ?_
  rintro e w1 ⟨rfl,A0⟩
  have A1:=A0.size
  (try simp at A1)
  have A4:=bl5 A0 (w.heap.size)
  go_wp2_with fail
  refine(LY.out _ (HR.out.bel blw)).mono ?_
  rintro e w2 ⟨rfl,A2⟩
  have A3:=A2.size
  (try simp at A3)
  repeat' (first|go_values|go_skip|go_guarded|go_step|go_upon|(simp only[];go_simp))
  go_ret2
  exact⟨rfl,blw⟩
 ·obtain⟨e1,e2⟩:=light_bad h
  rw[e1,e2]
  unfold Ask.val at LE ⊢
  generalize lightQ A=q at *
  have q1:(q != 0)=true:=by simpa using h
  have LE:=Lib.hid LE
  clear hr h e1 e2
  generalize A.ls.length=len at *
  go_enter Tryz.func12,Tryz.ntmps12
  go_wp2_with fail
  refine(LE.out _).mono ?_
  rintro e w1 ⟨rfl,A0⟩
  have A1:=A0.size
  (try simp at A1)
  repeat' (first|go_values|go_skip|go_guarded|go_step|go_upon|(simp only[];go_simp))
  go_ret2
  exact⟨rfl,blw⟩
end Go.Proofs.YticobgianbecpaaGreatDoor
