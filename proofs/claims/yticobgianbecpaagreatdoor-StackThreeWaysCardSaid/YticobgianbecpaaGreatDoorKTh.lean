/- Joined: Meet4 Three BelPub ThreeAll. -/
import Derived.Test.YticobgianbecpaaGreatDoorKCopy
import Derived.Test.YticobgianbecpaaGreatDoorKBack
import Derived.Test.YticobgianbecpaaGreatDoorKLies
import Derived.Test.YticobgianbecpaaGreatDoorKStk
import Derived.Test.YticobgianbecpaaGreatDoorKBw
import Derived.Test.YticobgianbecpaaGreatDoorPaths
import Derived.Test.YticobgianbecpaaGreatDoorKYes
import Derived.Test.YticobgianbecpaaGreatDoorKOp
namespace Go.Proofs.YticobgianbecpaaGreatDoor
open Go Go.Sort Go.RowKit
theorem Meets_yes4 {X Z:Res} (hx:Fine X) (hz:Fine Z) (h:Close X Z) (w:World) :
  Calls Tryz.prog 93 #[.agg #[.complex .f64 (fl X.a) (fl X.b),.int .i64 X.c],.agg #[.complex .f64 (fl Z.a) (fl Z.b),.int .i64 Z.c]] w fun E w'=>E = .returned (.tuple #[.bool true,.int .i64 0])∧Below w.heap.size w w':=by
 have k:=Meets_any X.a X.b X.c Z.a Z.b Z.c w hx.f1 hx.f2 hz.f1 hz.f2
 have a:apB X.a X.b Z.a Z.b (X.c+Z.c)=true:=by
  unfold apB
  unfold Close at h
  have r:=hx.right.2.1
  have s:=hz.right.2.1
  simp only[Bool.and_eq_true,decide_eq_true_eq]
  exact⟨by omega,h⟩
 rw[a]at k
 have v:askV X.a X.b X.c Z.a Z.b Z.c true=true:=by unfold askV;rw[if_pos ⟨hx.right,hz.right⟩]
 have q:askQ X.a X.b X.c Z.a Z.b Z.c=0:=by unfold askQ;rw[if_pos ⟨hx.right,hz.right⟩]
 rw[v,q]at k
 exact k
theorem meets_yes4 {X Z:Res} (hx:Fine X) (hz:Fine Z) (h:Close X Z) (w:World) :
  Calls Tryz.prog 29 #[.agg #[.complex .f64 (fl X.a) (fl X.b),.int .i64 X.c],.agg #[.complex .f64 (fl Z.a) (fl Z.b),.int .i64 Z.c]] w fun E w'=>E = .returned (.bool true)∧Below w.heap.size w w':=by
 have M:=Lib.hid (fun w=>Meets_yes4 hx hz h w)
 clear hx hz h
 go_enter Tryz.func29,Tryz.ntmps29
 go_wp2_with fail
 refine(M.out _).mono ?_
 rintro e w1 ⟨rfl,A3⟩
 have Au:=A3.size
 (try simp at Au)
 repeat' (first|go_values|go_skip|go_guarded|go_step|go_upon|(simp only[];go_simp))
 go_ret
 exact⟨rfl,blw⟩
end Go.Proofs.YticobgianbecpaaGreatDoor
namespace Go.Proofs.YticobgianbecpaaGreatDoor
open Go Go.Sort Go.RowKit
set_option maxRecDepth 100000 in
set_option maxHeartbeats 16000000 in
theorem three_of (AW:Awake3) (A:Ask) (k:Int) (R T X Y Z:Res) (e f g h:Int)
  (RE:∀(gp c:Nat) (w:World),Row (some ⟨gp,0,none⟩) A.ls w→gp<w.heap.size→Calls Tryz.prog 27 #[(A.mv (some ⟨gp,0,none⟩) c).val] w fun E w'=>E = .returned (.tuple #[.agg #[.complex .f64 (fl R.a) (fl R.b),.int .i64 R.c],.int .i64 e])∧Below w.heap.size w w')
  (TR:∀(gp c:Nat) (w:World),Row (some ⟨gp,0,none⟩) A.ls w→gp<w.heap.size→Calls Tryz.prog 28 #[(A.mv (some ⟨gp,0,none⟩) c).val] w fun E w'=>E = .returned (.tuple #[.agg #[.complex .f64 (fl T.a) (fl T.b),.int .i64 T.c],.int .i64 f])∧Below w.heap.size w w')
  (FB:∀(gp c:Nat) (w:World),Row (some ⟨gp,0,none⟩) A.ls w→gp<w.heap.size→Calls Tryz.prog 21 #[(A.mv (some ⟨gp,0,none⟩) c).val] w fun E w'=>E = .returned (.tuple #[.agg #[.complex .f64 (fl X.a) (fl X.b),.int .i64 X.c,.complex .f64 (fl Y.a) (fl Y.b),.int .i64 Y.c],.int .i64 g])∧Below w.heap.size w w')
  (PA:∀(gp c:Nat) (w:World),Row (some ⟨gp,0,none⟩) A.ls w→gp<w.heap.size→Calls Tryz.prog 22 #[(A.mv (some ⟨gp,0,none⟩) c).val,.int .i64 k] w fun E w'=>E = .returned (.tuple #[.agg #[.complex .f64 (fl Z.a) (fl Z.b),.int .i64 Z.c],.int .i64 h])∧Below w.heap.size w w')
  (M1:e=0→g=0→∀w,Calls Tryz.prog 29 #[.agg #[.complex .f64 (fl R.a) (fl R.b),.int .i64 R.c],.agg #[.complex .f64 (fl X.a) (fl X.b),.int .i64 X.c]] w fun E w'=>E = .returned (.bool true)∧Below w.heap.size w w')
  (M2:f=0→g=0→∀w,Calls Tryz.prog 29 #[.agg #[.complex .f64 (fl T.a) (fl T.b),.int .i64 T.c],.agg #[.complex .f64 (fl Y.a) (fl Y.b),.int .i64 Y.c]] w fun E w'=>E = .returned (.bool true)∧Below w.heap.size w w')
  (M3:h=0→e=0→∀w,Calls Tryz.prog 29 #[.agg #[.complex .f64 (fl R.a) (fl R.b),.int .i64 R.c],.agg #[.complex .f64 (fl Z.a) (fl Z.b),.int .i64 Z.c]] w fun E w'=>E = .returned (.bool true)∧Below w.heap.size w w')
  (M4:h=0→g=0→∀w,Calls Tryz.prog 29 #[.agg #[.complex .f64 (fl X.a) (fl X.b),.int .i64 X.c],.agg #[.complex .f64 (fl Z.a) (fl Z.b),.int .i64 Z.c]] w fun E w'=>E = .returned (.bool true)∧Below w.heap.size w w')
  (hp:A.pa=none→A.ls.length=0∧A.cap=0) (w:World) (hS:Std w) (hr:Row A.pa A.ls w) :
  Calls Tryz.prog 7 #[A.val,.int .i64 k] w fun e w'=>e = .returned (.bool true)∧Below w.heap.size w w':=by
 have AW:=Lib.hid AW
 have FW:=Lib.hid (fun w=>Few_any A w)
 have ST:=Lib.hid hS
 clear hS
 by_cases hn:A.ls.length≤42
 case neg =>
  have HN:=Lib.hid hn
  clear hr hp hn RE TR FB PA M1 M2 M3 M4
  unfold Ask.val at FW ⊢
  generalize A.ls.length=len at *
  go_enter Tryz.func7,Tryz.ntmps7
  go_wp2_with fail
  refine(AW.out _ (ST.out.below blw)).mono ?_
  rintro e w1 ⟨rfl,A3⟩
  have Af:=bl5 A3 (w.heap.size)
  go_wp2_with fail
  refine(FW.out _).mono ?_
  rintro e w2 ⟨t,rfl,ht,Ah⟩
  obtain rfl:t=false:=by cases t;· rfl
                         ·exact absurd (ht rfl) HN.out
  have Aq:=bl5 Ah (w.heap.size)
  repeat' (first|go_values|go_skip|go_guarded|go_step|go_upon|(simp only[];go_simp))
  go_ret
  exact⟨rfl,blw⟩
 have CP:=Lib.hid (fun w hr=>CopyAsk_any A hp (by omega) w hr)
 have M1:=Lib.hid M1
 have M2:=Lib.hid M2
 have M3:=Lib.hid M3
 have M4:=Lib.hid M4
 have HR:=Lib.hid hr
 clear hr hp hn
 unfold Ask.mv at CP RE TR FB PA
 unfold Ask.val at CP FW RE TR FB PA ⊢
 generalize A.ls.length=len at *
 have RE:=Lib.hid RE
 have TR:=Lib.hid TR
 have FB:=Lib.hid FB
 have PA:=Lib.hid PA
 go_enter Tryz.func7,Tryz.ntmps7
 go_wp2_with fail
 refine(AW.out _ (ST.out.below blw)).mono ?_
 rintro e w1 ⟨rfl,A3⟩
 clear AW ST
 have Af:=bl5 A3 (w.heap.size)
 go_wp2_with fail
 refine(FW.out _).mono ?_
 rintro e w2 ⟨t,rfl,ht,Ah⟩
 clear ht
 have Aq:=bl5 Ah (w.heap.size)
 cases t
 ·repeat' (first|go_values|go_skip|go_guarded|go_step|go_upon|(simp only[];go_simp))
  go_ret
  exact⟨rfl,blw⟩
 go_wp2_with fail
 refine(CP.out _ (HR.out.bel blw)).mono ?_
 rintro e w3 ⟨g3,c3,rfl,hr3,hl3,hh3,As⟩
 have Ba:=bl5 As (w.heap.size)
 go_wp2_with fail
 refine(RE.out g3 c3 _ hr3 hh3).mono ?_
 rintro e w4 ⟨rfl,At⟩
 clear hr3
 have Bb:=bl5 At (w.heap.size)
 go_wp2_with fail
 refine(CP.out _ (HR.out.bel blw)).mono ?_
 rintro e w5 ⟨g5,c5,rfl,hr5,hl5,hh5,Ao⟩
 have Bc:=bl5 Ao (w.heap.size)
 have B1:=bl5 Ao (w4.heap.size)
 go_wp2_with fail
 refine(TR.out g5 c5 _ hr5 hh5).mono ?_
 rintro e w6 ⟨rfl,Ap⟩
 clear hr5
 have Bd:=bl5 Ap (w.heap.size)
 have B2:=bl5 Ap (w4.heap.size)
 go_wp2_with fail
 refine(CP.out _ (HR.out.bel blw)).mono ?_
 rintro e w7 ⟨g7,c7,rfl,hr7,hl7,hh7,Ai⟩
 have Be:=bl5 Ai (w.heap.size)
 have B3:=bl5 Ai (w4.heap.size)
 have B4:=bl5 Ai (w6.heap.size)
 go_wp2_with fail
 refine(FB.out g7 c7 _ hr7 hh7).mono ?_
 rintro e w8 ⟨rfl,Aj⟩
 clear hr7
 have Bf:=bl5 Aj (w.heap.size)
 have B5:=bl5 Aj (w4.heap.size)
 have B6:=bl5 Aj (w6.heap.size)
 go_wp2_with fail
 refine(CP.out _ (HR.out.bel blw)).mono ?_
 rintro e w9 ⟨g9,c9,rfl,hr9,hl9,hh9,Ak⟩
 have B7:=bl5 Ak (w4.heap.size)
 have B8:=bl5 Ak (w6.heap.size)
 have B9:=bl5 Ak (w8.heap.size)
 go_wp2_with fail
 refine(PA.out g9 c9 _ hr9 hh9).mono ?_
 rintro e w10 ⟨rfl,Ae⟩
 clear hr9 CP RE TR FB PA HR
 have Av:=bl5 Ae (w4.heap.size)
 have Aw:=bl5 Ae (w6.heap.size)
 have Ax:=bl5 Ae (w8.heap.size)
 by_cases he:e=0
 ·subst he
  by_cases hf:f=0
  ·subst hf
   by_cases hg:g=0
   ·subst hg
    by_cases hh:h=0
    ·subst hh
     have NM1:=Lib.hid (M1.out rfl rfl)
     have NM2:=Lib.hid (M2.out rfl rfl)
     have NM3:=Lib.hid (M3.out rfl rfl)
     have NM4:=Lib.hid (M4.out rfl rfl)
     clear M1 M2 M3 M4
     go_wp2_with fail
     refine(NM1.out _).mono ?_
     rintro e' w20 ⟨rfl,A0⟩
     clear NM1
     have A4:=bl5 A0 (w4.heap.size)
     have A5:=bl5 A0 (w6.heap.size)
     have A6:=bl5 A0 (w8.heap.size)
     have A2:=bl5 A0 (w10.heap.size)
     go_wp2_with fail
     refine(NM2.out _).mono ?_
     rintro e' w21 ⟨rfl,A1⟩
     clear NM2
     have Aa:=bl5 A1 (w4.heap.size)
     have Ab:=bl5 A1 (w6.heap.size)
     have Ac:=bl5 A1 (w8.heap.size)
     have A9:=bl5 A1 (w10.heap.size)
     go_wp2_with fail
     refine(NM3.out _).mono ?_
     rintro e' w22 ⟨rfl,A7⟩
     clear NM3
     have Al:=bl5 A7 (w4.heap.size)
     have Am:=bl5 A7 (w6.heap.size)
     have An:=bl5 A7 (w8.heap.size)
     have Ag:=bl5 A7 (w10.heap.size)
     go_wp2_with fail
     refine(NM4.out _).mono ?_
     rintro e' w23 ⟨rfl,Ad⟩
     clear NM4
     have Ay:=bl5 Ad (w4.heap.size)
     have Az:=bl5 Ad (w6.heap.size)
     have B0:=bl5 Ad (w8.heap.size)
     have Ar:=bl5 Ad (w10.heap.size)
     repeat' (first|go_values|go_skip|go_guarded|go_step|go_upon|(simp only[];go_simp))
     go_ret
     exact⟨rfl,blw⟩
    ·have hh1:(h==0)=false:=by simpa using hh
     have hh2:(h != 0)=true:=by simpa using hh
     have NM1:=Lib.hid (M1.out rfl rfl)
     have NM2:=Lib.hid (M2.out rfl rfl)
     clear M1 M2 M3 M4
     go_wp2_with fail
     refine(NM1.out _).mono ?_
     rintro e' w20 ⟨rfl,A0⟩
     clear NM1
     have A4:=bl5 A0 (w4.heap.size)
     have A5:=bl5 A0 (w6.heap.size)
     have A6:=bl5 A0 (w8.heap.size)
     have A2:=bl5 A0 (w10.heap.size)
     go_wp2_with fail
     refine(NM2.out _).mono ?_
     rintro e' w21 ⟨rfl,A1⟩
     clear NM2
     have Aa:=bl5 A1 (w4.heap.size)
     have Ab:=bl5 A1 (w6.heap.size)
     have Ac:=bl5 A1 (w8.heap.size)
     have A9:=bl5 A1 (w10.heap.size)
     repeat' (first|go_values|go_skip|go_guarded|go_step|go_upon|(simp only[];go_simp))
     go_ret
     exact⟨rfl,blw⟩
   ·have hg1:(g==0)=false:=by simpa using hg
    have hg2:(g != 0)=true:=by simpa using hg
    by_cases hh:h=0
    ·subst hh
     have NM3:=Lib.hid (M3.out rfl rfl)
     clear M1 M2 M3 M4
     go_wp2_with fail
     refine(NM3.out _).mono ?_
     rintro e' w20 ⟨rfl,A0⟩
     clear NM3
     have A4:=bl5 A0 (w4.heap.size)
     have A5:=bl5 A0 (w6.heap.size)
     have A6:=bl5 A0 (w8.heap.size)
     have A2:=bl5 A0 (w10.heap.size)
     repeat' (first|go_values|go_skip|go_guarded|go_step|go_upon|(simp only[];go_simp))
     go_ret
     exact⟨rfl,blw⟩
    ·have hh1:(h==0)=false:=by simpa using hh
     have hh2:(h != 0)=true:=by simpa using hh
     clear M1 M2 M3 M4
     repeat' (first|go_values|go_skip|go_guarded|go_step|go_upon|(simp only[];go_simp))
     go_ret
     exact⟨rfl,blw⟩
  ·have hf1:(f==0)=false:=by simpa using hf
   have hf2:(f != 0)=true:=by simpa using hf
   by_cases hg:g=0
   ·subst hg
    by_cases hh:h=0
    ·subst hh
     have NM1:=Lib.hid (M1.out rfl rfl)
     have NM3:=Lib.hid (M3.out rfl rfl)
     have NM4:=Lib.hid (M4.out rfl rfl)
     clear M1 M2 M3 M4
     go_wp2_with fail
     refine(NM1.out _).mono ?_
     rintro e' w20 ⟨rfl,A0⟩
     clear NM1
     have A4:=bl5 A0 (w4.heap.size)
     have A5:=bl5 A0 (w6.heap.size)
     have A6:=bl5 A0 (w8.heap.size)
     have A2:=bl5 A0 (w10.heap.size)
     go_wp2_with fail
     refine(NM3.out _).mono ?_
     rintro e' w21 ⟨rfl,A1⟩
     clear NM3
     have Aa:=bl5 A1 (w4.heap.size)
     have Ab:=bl5 A1 (w6.heap.size)
     have Ac:=bl5 A1 (w8.heap.size)
     have A9:=bl5 A1 (w10.heap.size)
     go_wp2_with fail
     refine(NM4.out _).mono ?_
     rintro e' w22 ⟨rfl,A7⟩
     clear NM4
     have Al:=bl5 A7 (w4.heap.size)
     have Am:=bl5 A7 (w6.heap.size)
     have An:=bl5 A7 (w8.heap.size)
     have Ag:=bl5 A7 (w10.heap.size)
     repeat' (first|go_values|go_skip|go_guarded|go_step|go_upon|(simp only[];go_simp))
     go_ret
     exact⟨rfl,blw⟩
    ·have hh1:(h==0)=false:=by simpa using hh
     have hh2:(h != 0)=true:=by simpa using hh
     have NM1:=Lib.hid (M1.out rfl rfl)
     clear M1 M2 M3 M4
     go_wp2_with fail
     refine(NM1.out _).mono ?_
     rintro e' w20 ⟨rfl,A0⟩
     clear NM1
     have A4:=bl5 A0 (w4.heap.size)
     have A5:=bl5 A0 (w6.heap.size)
     have A6:=bl5 A0 (w8.heap.size)
     have A2:=bl5 A0 (w10.heap.size)
     repeat' (first|go_values|go_skip|go_guarded|go_step|go_upon|(simp only[];go_simp))
     go_ret
     exact⟨rfl,blw⟩
   ·have hg1:(g==0)=false:=by simpa using hg
    have hg2:(g != 0)=true:=by simpa using hg
    by_cases hh:h=0
    ·subst hh
     have NM3:=Lib.hid (M3.out rfl rfl)
     clear M1 M2 M3 M4
     go_wp2_with fail
     refine(NM3.out _).mono ?_
     rintro e' w20 ⟨rfl,A0⟩
     clear NM3
     have A4:=bl5 A0 (w4.heap.size)
     have A5:=bl5 A0 (w6.heap.size)
     have A6:=bl5 A0 (w8.heap.size)
     have A2:=bl5 A0 (w10.heap.size)
     repeat' (first|go_values|go_skip|go_guarded|go_step|go_upon|(simp only[];go_simp))
     go_ret
     exact⟨rfl,blw⟩
    ·have hh1:(h==0)=false:=by simpa using hh
     have hh2:(h != 0)=true:=by simpa using hh
     clear M1 M2 M3 M4
     repeat' (first|go_values|go_skip|go_guarded|go_step|go_upon|(simp only[];go_simp))
     go_ret
     exact⟨rfl,blw⟩
 ·have he1:(e==0)=false:=by simpa using he
  have he2:(e != 0)=true:=by simpa using he
  by_cases hf:f=0
  ·subst hf
   by_cases hg:g=0
   ·subst hg
    by_cases hh:h=0
    ·subst hh
     have NM2:=Lib.hid (M2.out rfl rfl)
     have NM4:=Lib.hid (M4.out rfl rfl)
     clear M1 M2 M3 M4
     go_wp2_with fail
     refine(NM2.out _).mono ?_
     rintro e' w20 ⟨rfl,A0⟩
     clear NM2
     have A4:=bl5 A0 (w4.heap.size)
     have A5:=bl5 A0 (w6.heap.size)
     have A6:=bl5 A0 (w8.heap.size)
     have A2:=bl5 A0 (w10.heap.size)
     go_wp2_with fail
     refine(NM4.out _).mono ?_
     rintro e' w21 ⟨rfl,A1⟩
     clear NM4
     have Aa:=bl5 A1 (w4.heap.size)
     have Ab:=bl5 A1 (w6.heap.size)
     have Ac:=bl5 A1 (w8.heap.size)
     have A9:=bl5 A1 (w10.heap.size)
     repeat' (first|go_values|go_skip|go_guarded|go_step|go_upon|(simp only[];go_simp))
     go_ret
     exact⟨rfl,blw⟩
    ·have hh1:(h==0)=false:=by simpa using hh
     have hh2:(h != 0)=true:=by simpa using hh
     have NM2:=Lib.hid (M2.out rfl rfl)
     clear M1 M2 M3 M4
     go_wp2_with fail
     refine(NM2.out _).mono ?_
     rintro e' w20 ⟨rfl,A0⟩
     clear NM2
     have A4:=bl5 A0 (w4.heap.size)
     have A5:=bl5 A0 (w6.heap.size)
     have A6:=bl5 A0 (w8.heap.size)
     have A2:=bl5 A0 (w10.heap.size)
     repeat' (first|go_values|go_skip|go_guarded|go_step|go_upon|(simp only[];go_simp))
     go_ret
     exact⟨rfl,blw⟩
   ·have hg1:(g==0)=false:=by simpa using hg
    have hg2:(g != 0)=true:=by simpa using hg
    by_cases hh:h=0
    ·subst hh
     clear M1 M2 M3 M4
     repeat' (first|go_values|go_skip|go_guarded|go_step|go_upon|(simp only[];go_simp))
     go_ret
     exact⟨rfl,blw⟩
    ·have hh1:(h==0)=false:=by simpa using hh
     have hh2:(h != 0)=true:=by simpa using hh
     clear M1 M2 M3 M4
     repeat' (first|go_values|go_skip|go_guarded|go_step|go_upon|(simp only[];go_simp))
     go_ret
     exact⟨rfl,blw⟩
  ·have hf1:(f==0)=false:=by simpa using hf
   have hf2:(f != 0)=true:=by simpa using hf
   by_cases hg:g=0
   ·subst hg
    by_cases hh:h=0
    ·subst hh
     have NM4:=Lib.hid (M4.out rfl rfl)
     clear M1 M2 M3 M4
     go_wp2_with fail
     refine(NM4.out _).mono ?_
     rintro e' w20 ⟨rfl,A0⟩
     clear NM4
     have A4:=bl5 A0 (w4.heap.size)
     have A5:=bl5 A0 (w6.heap.size)
     have A6:=bl5 A0 (w8.heap.size)
     have A2:=bl5 A0 (w10.heap.size)
     repeat' (first|go_values|go_skip|go_guarded|go_step|go_upon|(simp only[];go_simp))
     go_ret
     exact⟨rfl,blw⟩
    ·have hh1:(h==0)=false:=by simpa using hh
     have hh2:(h != 0)=true:=by simpa using hh
     clear M1 M2 M3 M4
     repeat' (first|go_values|go_skip|go_guarded|go_step|go_upon|(simp only[];go_simp))
     go_ret
     exact⟨rfl,blw⟩
   ·have hg1:(g==0)=false:=by simpa using hg
    have hg2:(g != 0)=true:=by simpa using hg
    by_cases hh:h=0
    ·subst hh
     clear M1 M2 M3 M4
     repeat' (first|go_values|go_skip|go_guarded|go_step|go_upon|(simp only[];go_simp))
     go_ret
     exact⟨rfl,blw⟩
    ·have hh1:(h==0)=false:=by simpa using hh
     have hh2:(h != 0)=true:=by simpa using hh
     clear M1 M2 M3 M4
     repeat' (first|go_values|go_skip|go_guarded|go_step|go_upon|(simp only[];go_simp))
     go_ret
     exact⟨rfl,blw⟩
end Go.Proofs.YticobgianbecpaaGreatDoor
namespace Go.Proofs.YticobgianbecpaaGreatDoor
open Go Go.Sort Go.RowKit
theorem ckQ_mv' (A:Ask) (p:Option Addr) (c:Nat):ckQ (A.mv p c)=ckQ A:=by unfold ckQ;rfl
theorem medk_mv (A:Ask) (p:Option Addr) (c k:Nat):(A.mv p c).med k=A.med k:=by unfold Ask.med Ask.mv;rfl
theorem admE_mv (A:Ask) (p:Option Addr) (c:Nat):∀k,admE (A.mv p c) k=admE A k
 | 0=>rfl
 | k+1=>by unfold admE;rw[admE_mv A p c k,medk_mv,adm_mv]
theorem admY_mv (A:Ask) (p:Option Addr) (c k:Nat):admY (A.mv p c) k=admY A k:=by unfold admY;rw[admE_mv,medk_mv,adm_mv]
theorem belR_mv (A:Ask) (p:Option Addr) (c:Nat) (b:Box) (y0 y1:Res) (s:Blw):belR (A.mv p c) b y0 y1 s=belR A b y0 y1 s:=by unfold belR;simp only[fac_mv]
theorem belG_mv (A:Ask) (p:Option Addr) (c:Nat):∀(j:Nat) (s:Blw),belG (A.mv p c) j s=belG A j s
 | 0,s=>rfl
 | j+1,s=>by unfold belG;simp only[belR_mv,medk_mv,admY_mv,belG_mv A p c j]
theorem belT_mv (A:Ask) (p:Option Addr) (c:Nat):belT (A.mv p c)=belT A:=by
 unfold belT
 rw[belG_mv]
 have e:belS (A.mv p c)=belS A:=by unfold belS;simp only[admE_mv,admY_mv];try rfl
 rw[e]
 try rfl
theorem pthM_mv (A:Ask) (p:Option Addr) (c n:Nat):pthM (A.mv p c) n=pthM A n:=by
 have e1:pthN (A.mv p c)=pthN A:=by unfold pthN;simp only[admE_mv,admY_mv]
 have e2:pthY (A.mv p c)=pthY A:=by unfold pthY;rw[e1];simp only[admY_mv]
 have e3:pthG (A.mv p c)=pthG A:=by unfold pthG;rw[e2,medk_mv,fac_mv]
 have e4:pthZ (A.mv p c)=pthZ A:=by unfold pthZ;rw[e2,e3]
 have e5:pthX (A.mv p c)=pthX A:=by unfold pthX;rw[e4,e1]
 have e6:pthK (A.mv p c) n=pthK A n:=by unfold pthK;rw[e5,e1,e4]
 have e7:pthO (A.mv p c) n=pthO A n:=by unfold pthO;rw[e6,e5,e1]
 have e8:pthE (A.mv p c) n=pthE A n:=by unfold pthE;rw[e5,e6]
 unfold pthM
 rw[e5,e6,e7,e8]
set_option maxRecDepth 100000 in
set_option maxHeartbeats 4000000 in
theorem Reflected_no2 (A:Ask) (q:Int) (e:ckQ A=q) (hq:¬q=0) (g c:Nat) (w:World) (hr:Row (some ⟨g,0,none⟩) A.ls w) :
  Calls Tryz.prog 27 #[(A.mv (some ⟨g,0,none⟩) c).val] w fun e w'=>e = .returned (.tuple #[.agg #[.complex .f64 0 0,.int .i64 0],.int .i64 q])∧Below w.heap.size w w':=by
 have OP:=fun w hr=>open_no (A.mv (some ⟨g,0,none⟩) c) w hr
 rw[ckQ_mv',e]at OP
 unfold Ask.mv at OP ⊢
 unfold Ask.val at OP ⊢
 have hq1:(q != 0)=true:=by simpa using hq
 have OP:=Lib.hid OP
 have HR:=Lib.hid hr
 clear hr hq e
 generalize A.ls.length=len at *
 go_enter Tryz.func27,Tryz.ntmps27
 go_wp2_with fail
 refine(OP.out _ (HR.out.bel blw)).mono ?_
 rintro e w1 ⟨n,rfl,A3⟩
 have A8:=bl5 A3 (w.heap.size+1)
 repeat' (first|go_values|go_skip|go_guarded|go_step|go_upon|(simp only[];go_simp))
 refine bodyPost_ret (by simp[results,Tryz.results27,go_sem, *];first|done|rfl) rfl ?_
 exact⟨rfl,blw⟩
set_option maxRecDepth 100000 in
set_option maxHeartbeats 4000000 in
theorem Transmitted_no2 (A:Ask) (q:Int) (e:ckQ A=q) (hq:¬q=0) (g c:Nat) (w:World) (hr:Row (some ⟨g,0,none⟩) A.ls w) :
  Calls Tryz.prog 28 #[(A.mv (some ⟨g,0,none⟩) c).val] w fun e w'=>e = .returned (.tuple #[.agg #[.complex .f64 0 0,.int .i64 0],.int .i64 q])∧Below w.heap.size w w':=by
 have OP:=fun w hr=>open_no (A.mv (some ⟨g,0,none⟩) c) w hr
 rw[ckQ_mv',e]at OP
 unfold Ask.mv at OP ⊢
 unfold Ask.val at OP ⊢
 have hq1:(q != 0)=true:=by simpa using hq
 have OP:=Lib.hid OP
 have HR:=Lib.hid hr
 clear hr hq e
 generalize A.ls.length=len at *
 go_enter Tryz.func28,Tryz.ntmps28
 go_wp2_with fail
 refine(OP.out _ (HR.out.bel blw)).mono ?_
 rintro e w1 ⟨n,rfl,A3⟩
 have A8:=bl5 A3 (w.heap.size+1)
 repeat' (first|go_values|go_skip|go_guarded|go_step|go_upon|(simp only[];go_simp))
 refine bodyPost_ret (by simp[results,Tryz.results28,go_sem, *];first|done|rfl) rfl ?_
 exact⟨rfl,blw⟩
set_option maxRecDepth 100000 in
set_option maxHeartbeats 4000000 in
theorem FromBelow_no (A:Ask) (q:Int) (e:ckQ A=q) (hq:¬q=0) (g c:Nat) (w:World) (hr:Row (some ⟨g,0,none⟩) A.ls w) :
  Calls Tryz.prog 21 #[(A.mv (some ⟨g,0,none⟩) c).val] w fun e w'=>e = .returned (.tuple #[.agg #[.complex .f64 0 0,.int .i64 0,.complex .f64 0 0,.int .i64 0],.int .i64 q])∧Below w.heap.size w w':=by
 have OP:=fun w hr=>open_no (A.mv (some ⟨g,0,none⟩) c) w hr
 rw[ckQ_mv',e]at OP
 unfold Ask.mv at OP ⊢
 unfold Ask.val at OP ⊢
 have hq1:(q != 0)=true:=by simpa using hq
 have OP:=Lib.hid OP
 have HR:=Lib.hid hr
 clear hr hq e
 generalize A.ls.length=len at *
 go_enter Tryz.func21,Tryz.ntmps21
 go_wp2_with fail
 refine(OP.out _ (HR.out.bel blw)).mono ?_
 rintro e w1 ⟨n,rfl,A3⟩
 have A8:=bl5 A3 (w.heap.size+1)
 repeat' (first|go_values|go_skip|go_guarded|go_step|go_upon|(simp only[];go_simp))
 refine bodyPost_ret (by simp[results,Tryz.results21,go_sem, *];first|done|rfl) rfl ?_
 exact⟨rfl,blw⟩
set_option maxRecDepth 100000 in
set_option maxHeartbeats 4000000 in
theorem Paths_no (A:Ask) (q:Int) (k:Int) (e:ckQ A=q) (hq:¬q=0) (g c:Nat) (w:World) (hr:Row (some ⟨g,0,none⟩) A.ls w) :
  Calls Tryz.prog 22 #[(A.mv (some ⟨g,0,none⟩) c).val,.int .i64 k] w fun e w'=>e = .returned (.tuple #[.agg #[.complex .f64 0 0,.int .i64 0],.int .i64 q])∧Below w.heap.size w w':=by
 have OP:=fun w hr=>open_no (A.mv (some ⟨g,0,none⟩) c) w hr
 rw[ckQ_mv',e]at OP
 unfold Ask.mv at OP ⊢
 unfold Ask.val at OP ⊢
 have hq1:(q != 0)=true:=by simpa using hq
 have OP:=Lib.hid OP
 have HR:=Lib.hid hr
 clear hr hq e
 generalize A.ls.length=len at *
 go_enter Tryz.func22,Tryz.ntmps22
 go_wp2_with fail
 refine(OP.out _ (HR.out.bel blw)).mono ?_
 rintro e w1 ⟨n,rfl,A3⟩
 have A8:=bl5 A3 (w.heap.size+1)
 repeat' (first|go_values|go_skip|go_guarded|go_step|go_upon|(simp only[];go_simp))
 refine bodyPost_ret (by simp[results,Tryz.results22,go_sem, *];first|done|rfl) rfl ?_
 exact⟨rfl,blw⟩
set_option maxRecDepth 100000 in
set_option maxHeartbeats 4000000 in
theorem Paths_shape (A:Ask) (hA:AskOk A) (k:Int) (hl:¬A.ls.length=1) (w:World) (hr:Row A.pa A.ls w) (hpa:∀a,A.pa=some a→a.block<w.heap.size) :
  Calls Tryz.prog 22 #[A.val,.int .i64 k] w fun e w'=>e = .returned (.tuple #[.agg #[.complex .f64 0 0,.int .i64 0],.int .i64 12])∧Below w.heap.size w w':=by
 have OP:=fun w hr hpa=>open_any A hA w hr hpa
 have hne:((A.ls.length:Int) != 1)=true:=by simpa using(fun h:(A.ls.length:Int)=1=>hl (by omega))
 clear hl
 unfold Ask.val at OP ⊢
 have OP:=Lib.hid OP
 have HR:=Lib.hid hr
 have HP:=Lib.hid hpa
 clear hr hpa hA
 go_enter Tryz.func22,Tryz.ntmps22
 go_wp2_with fail
 refine(OP.out _ (HR.out.bel blw) (fun a h=>by have:=HP.out a h;simp;omega)).mono ?_
 rintro e w1 ⟨n,hn,rfl,hL,A3⟩
 clear hL
 simp at hn
 have Af:=bl5 A3 (w.heap.size)
 have A8:=bl5 A3 (w.heap.size+1)
 repeat' (first|go_values|go_skip|go_guarded|go_step|go_upon|(simp only[];go_simp))
 refine bodyPost_ret (by simp[results,Tryz.results22,go_sem, *];first|done|rfl) rfl ?_
 exact⟨rfl,blw⟩
set_option maxRecDepth 100000 in
set_option maxHeartbeats 4000000 in
theorem Paths_range (A:Ask) (hA:AskOk A) (k:Int) (hl:A.ls.length=1) (hk:inR k 0 60=false) (w:World) (hr:Row A.pa A.ls w) (hpa:∀a,A.pa=some a→a.block<w.heap.size) :
  Calls Tryz.prog 22 #[A.val,.int .i64 k] w fun e w'=>e = .returned (.tuple #[.agg #[.complex .f64 0 0,.int .i64 0],.int .i64 2])∧Below w.heap.size w w':=by
 have OP:=fun w hr hpa=>open_any A hA w hr hpa
 have hne:((A.ls.length:Int) != 1)=false:=by rw[hl];decide
 have WI:=Lib.hid (fun w=>swithin_is k 0 60 false w hk)
 clear hl hk
 unfold Ask.val at OP ⊢
 have OP:=Lib.hid OP
 have HR:=Lib.hid hr
 have HP:=Lib.hid hpa
 clear hr hpa hA
 go_enter Tryz.func22,Tryz.ntmps22
 go_wp2_with fail
 refine(OP.out _ (HR.out.bel blw) (fun a h=>by have:=HP.out a h;simp;omega)).mono ?_
 rintro e w1 ⟨n,hn,rfl,hL,A3⟩
 clear hL
 simp at hn
 have Af:=bl5 A3 (w.heap.size)
 have A8:=bl5 A3 (w.heap.size+1)
 go_wp2_with fail
 refine(WI.out _).mono ?_
 rintro e w' ⟨rfl,rfl⟩
 repeat' (first|go_values|go_skip|go_guarded|go_step|go_upon|(simp only[];go_simp))
 refine bodyPost_ret (by simp[results,Tryz.results22,go_sem, *];first|done|rfl) rfl ?_
 exact⟨rfl,blw⟩
theorem Reflected_to2 (A:Ask) (hA:AskOk A) (R:Res) (hR:ampR A false=R) (g c:Nat) (w:World) (hr:Row (some ⟨g,0,none⟩) A.ls w) (hg:g<w.heap.size) :
  Calls Tryz.prog 27 #[(A.mv (some ⟨g,0,none⟩) c).val] w fun e w'=>e = .returned (.tuple #[.agg #[.complex .f64 (fl R.a) (fl R.b),.int .i64 R.c],.int .i64 R.q])∧Below w.heap.size w w':=by
 have k:=Reflected_any (A.mv (some ⟨g,0,none⟩) c) (ask_ok_mv hA _ _) w hr (fun a h=>by cases h;exact hg)
 rw[amp_mv,hR,out_quad]at k
 exact k
theorem Transmitted_to2 (A:Ask) (hA:AskOk A) (R:Res) (hR:ampR A true=R) (g c:Nat) (w:World) (hr:Row (some ⟨g,0,none⟩) A.ls w) (hg:g<w.heap.size) :
  Calls Tryz.prog 28 #[(A.mv (some ⟨g,0,none⟩) c).val] w fun e w'=>e = .returned (.tuple #[.agg #[.complex .f64 (fl R.a) (fl R.b),.int .i64 R.c],.int .i64 R.q])∧Below w.heap.size w w':=by
 have k:=Transmitted_any (A.mv (some ⟨g,0,none⟩) c) (ask_ok_mv hA _ _) w hr (fun a h=>by cases h;exact hg)
 rw[amp_mv,hR,out_quad]at k
 exact k
theorem FromBelow_to (A:Ask) (hA:AskOk A) (T:Blw) (hT:belT A=T) (X Y:Res) (hX:after T.t.q T.r=X) (hY:after T.t.q T.t=Y) (g c:Nat) (w:World) (hr:Row (some ⟨g,0,none⟩) A.ls w) (hg:g<w.heap.size) :
  Calls Tryz.prog 21 #[(A.mv (some ⟨g,0,none⟩) c).val] w fun e w'=>e = .returned (.tuple #[.agg #[.complex .f64 (fl X.a) (fl X.b),.int .i64 X.c,.complex .f64 (fl Y.a) (fl Y.b),.int .i64 Y.c],.int .i64 T.t.q])∧Below w.heap.size w w' :=
 FromBelow_good (A.mv (some ⟨g,0,none⟩) c) (ask_ok_mv hA _ _) T (by rw[belT_mv];exact hT) X Y hX hY w hr (fun a h=>by cases h;exact hg)
def pthAny (A:Ask) (k:Int):Res:=if A.ls.length=1 then(if inR k 0 60=true then pthM A k.toNat else .bad 2)else .bad 12
theorem Paths_to (A:Ask) (hA:AskOk A) (k:Int) (T:Res) (hT:pthAny A k=T) (g c:Nat) (w:World) (hr:Row (some ⟨g,0,none⟩) A.ls w) (hg:g<w.heap.size) :
  Calls Tryz.prog 22 #[(A.mv (some ⟨g,0,none⟩) c).val,.int .i64 k] w fun e w'=>e = .returned (.tuple #[.agg #[.complex .f64 (fl T.a) (fl T.b),.int .i64 T.c],.int .i64 T.q])∧Below w.heap.size w w':=by
 unfold pthAny at hT
 by_cases hl:A.ls.length=1
 ·rw[if_pos hl]at hT
  cases hk:inR k 0 60
  ·rw[if_neg (by rw[hk];decide)]at hT
   obtain⟨h1,h2,h3,h4⟩:=bad_at hT.symm
   rw[h1,h2,h3,h4]
   exact Paths_range (A.mv (some ⟨g,0,none⟩) c) (ask_ok_mv hA _ _) k hl hk w hr (fun a h=>by cases h;exact hg)
  ·rw[if_pos hk]at hT
   obtain⟨k0,k1⟩:=inR_yes.1 hk
   obtain⟨n,rfl⟩:∃n:Nat,k=n:=⟨k.toNat,by omega⟩
   rw[Int.toNat_natCast]at hT
   exact Paths_good (A.mv (some ⟨g,0,none⟩) c) (ask_ok_mv hA _ _) hl n (by omega) T (by rw[pthM_mv];exact hT) w hr (fun a h=>by cases h;exact hg)
 ·rw[if_neg hl]at hT
  obtain⟨h1,h2,h3,h4⟩:=bad_at hT.symm
  rw[h1,h2,h3,h4]
  exact Paths_shape (A.mv (some ⟨g,0,none⟩) c) (ask_ok_mv hA _ _) k hl w hr (fun a h=>by cases h;exact hg)
end Go.Proofs.YticobgianbecpaaGreatDoor
namespace Go.Proofs.YticobgianbecpaaGreatDoor
open Go Go.Sort Go.RowKit
theorem fine_belG {A:Ask} : ∀(j:Nat) (s:Blw),Fine s.r∧Fine s.t→Fine (belG A j s).r∧Fine (belG A j s).t
 | 0,s,h=>h
 | j+1,s,h=>by
  unfold belG
  split
  ·refine fine_belG j _ ?_
   unfold belR
   exact⟨fine_after _ (fine_qt _ _),fine_after _ (fine_qt _ _)⟩
  ·exact h
theorem fine_belT (A:Ask):Fine (belT A).r∧Fine (belT A).t:=by
 unfold belT
 refine fine_belG _ _ ?_
 unfold belS
 exact⟨fine_stp _ _ _,fine_after _ (fine_pl _ _)⟩
theorem fine_pthM {A:Ask} (a:AskOk A) (hl:A.ls.length=1) (c:Nat) (hq:(pthM A c).q=0):Fine (pthM A c):=by
 obtain⟨ps,hp⟩:=lays_ex a.ls
 obtain⟨p,_,_,ip,_⟩:=in_paths (ptA_ok a hp) hl c hq
 exact ip.1
theorem pthAny_ok {A:Ask}{k:Int} (h:(pthAny A k).q=0):A.ls.length=1∧pthAny A k=pthM A k.toNat:=by
 unfold pthAny at h ⊢
 by_cases hl:A.ls.length=1
 ·rw[if_pos hl]at h ⊢
  by_cases hk:inR k 0 60=true
  ·rw[if_pos hk];exact⟨hl,rfl⟩
  ·rw[if_neg hk,(quad_bad _).2.2.2]at h;exact absurd h (by decide)
 ·rw[if_neg hl,(quad_bad _).2.2.2]at h;exact absurd h (by decide)
set_option maxRecDepth 100000 in
theorem three_any (AW:Awake3) (A:Ask) (k:Int) (hp:A.pa=none→A.ls.length=0∧A.cap=0) (w:World) (hS:Std w) (hr:Row A.pa A.ls w) :
  Calls Tryz.prog 7 #[A.val,.int .i64 k] w fun e w'=>e = .returned (.bool true)∧Below w.heap.size w w':=by
 by_cases hc:ckQ A=0
 ·have hA:=ckQ_ok hc
  obtain⟨R,hR⟩:∃R,ampR A false=R:=⟨_,rfl⟩
  obtain⟨T,hT⟩:∃T,ampR A true=T:=⟨_,rfl⟩
  obtain⟨B,hB⟩:∃B,belT A=B:=⟨_,rfl⟩
  obtain⟨Z,hZ⟩:∃Z,pthAny A k=Z:=⟨_,rfl⟩
  obtain⟨X,hX⟩:∃X,after B.t.q B.r=X:=⟨_,rfl⟩
  obtain⟨Y,hY⟩:∃Y,after B.t.q B.t=Y:=⟨_,rfl⟩
  have fR:Fine R:=by rw[← hR];exact fine_amp A false
  have fT:Fine T:=by rw[← hT];exact fine_amp A true
  have fB:=fine_belT A
  rw[hB]at fB
  have bX:B.t.q=0→X=B.r∧Y=B.t:=fun h=>by rw[← hX,← hY,h,after_zero,after_zero];exact⟨rfl,rfl⟩
  refine three_of AW A k R T X Y Z R.q T.q B.t.q Z.q (fun g c w hr hg=>Reflected_to2 A hA R hR g c w hr hg) (fun g c w hr hg=>Transmitted_to2 A hA T hT g c w hr hg) (fun g c w hr hg=>FromBelow_to A hA B hB X Y hX hY g c w hr hg) (fun g c w hr hg=>Paths_to A hA k Z hZ g c w hr hg)
   (fun e g w => ?_) (fun f g w => ?_) (fun h e w => ?_) (fun h g w => ?_) hp w hS hr
  ·have cl:=below_close hA (by rw[hB];exact g) false (by rw[hR];exact e)
   rw[hR,hB,if_neg (by decide)]at cl
   rw[(bX g).1]
   exact meets_yes4 fR fB.1 cl w
  ·have cl:=below_close hA (by rw[hB];exact g) true (by rw[hT];exact f)
   rw[hT,hB,if_pos rfl]at cl
   rw[(bX g).2]
   exact meets_yes4 fT fB.2 cl w
  ·have hq:(pthAny A k).q=0:=by rw[hZ];exact h
   obtain⟨hl,e2⟩:=pthAny_ok hq
   rw[hZ]at e2
   rw[e2]at h ⊢
   have cl:=paths_amp hA hl k.toNat h (by rw[hR];exact e)
   rw[hR]at cl
   exact meets_yes4 fR (fine_pthM hA hl _ h) cl w
  ·have hq:(pthAny A k).q=0:=by rw[hZ];exact h
   obtain⟨hl,e2⟩:=pthAny_ok hq
   rw[hZ]at e2
   rw[e2]at h ⊢
   have cl:=paths_below hA hl k.toNat h (by rw[hB];exact g)
   rw[hB]at cl
   rw[(bX g).1]
   exact meets_yes4 fB.1 (fine_pthM hA hl _ h) cl w
 ·obtain⟨q,hq⟩:∃q,ckQ A=q:=⟨_,rfl⟩
  rw[hq]at hc
  obtain⟨z1,z2,z3,z4⟩:=quad_bad 1
  have z:fl (Res.bad 1).a=0∧fl (Res.bad 1).b=0∧(Res.bad 1).c=0:=by rw[z1,z2,z3,fl_zero];exact⟨rfl,rfl,rfl⟩
  exact three_of AW A k (.bad 1) (.bad 1) (.bad 1) (.bad 1) (.bad 1) q q q q (fun g c w hr _=>by rw[z.1,z.2.1,z.2.2];exact Reflected_no2 A q hq hc g c w hr) (fun g c w hr _=>by rw[z.1,z.2.1,z.2.2];exact Transmitted_no2 A q hq hc g c w hr)
   (fun g c w hr _=>by rw[z.1,z.2.1,z.2.2];exact FromBelow_no A q hq hc g c w hr) (fun g c w hr _=>by rw[z.1,z.2.1,z.2.2];exact Paths_no A q k hq hc g c w hr)
   (fun e=>absurd e hc) (fun e=>absurd e hc) (fun e=>absurd e hc) (fun e=>absurd e hc) hp w hS hr
end Go.Proofs.YticobgianbecpaaGreatDoor
