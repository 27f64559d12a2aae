/- Joined: AskAll AskLoop. -/
import Derived.Test.YticobgianbecpaaGreatDoorKFit
namespace Go.Proofs.YticobgianbecpaaGreatDoor
open Go Go.Sort Go.RowKit
theorem swithin_is (n lo hi:Int) (t:Bool) (w:World) (h:inR n lo hi=t):Calls Tryz.prog 78 #[.int .i64 n,.int .i64 lo,.int .i64 hi] w fun e w'=>e = .returned (.bool t)∧w'=w:=by
 subst h
 by_cases h1:lo≤n
 ·by_cases h2:n≤hi
  ·rw[inR_yes.2 ⟨h1,h2⟩]
   go_enter Tryz.func78,Tryz.ntmps78
   go_wp2
   go_ret
   exact⟨rfl,rfl⟩
  ·rw[inR_no.2 (fun h=>h2 h.2)]
   go_enter Tryz.func78,Tryz.ntmps78
   go_wp2
   go_ret
   exact⟨rfl,rfl⟩
 ·rw[inR_no.2 (fun h=>h1 h.1)]
  go_enter Tryz.func78,Tryz.ntmps78
  go_wp2
  go_ret
  exact⟨rfl,rfl⟩
theorem sidx_is (n:Int) (t:Bool) (w:World) (h:inR n 5000 80000=t):Calls Tryz.prog 150 #[.int .i64 n] w fun e w'=>e = .returned (.bool t)∧w'=w:=by
 have C:=Lib.hid (fun w=>swithin_is n 5000 80000 t w h)
 clear h
 go_enter Tryz.func150,Tryz.ntmps150
 go_wp2_with (go_at_call 78;refine(C.out _).mono ?_;rintro e w' ⟨rfl,rfl⟩)
 go_ret
 exact⟨rfl,rfl⟩
theorem sthick_is (n:Int) (t:Bool) (w:World) (h:inR n 0 1000000=t):Calls Tryz.prog 153 #[.int .i64 n] w fun e w'=>e = .returned (.bool t)∧w'=w:=by
 have C:=Lib.hid (fun w=>swithin_is n 0 1000000 t w h)
 clear h
 go_enter Tryz.func153,Tryz.ntmps153
 go_wp2_with (go_at_call 78;refine(C.out _).mono ?_;rintro e w' ⟨rfl,rfl⟩)
 go_ret
 exact⟨rfl,rfl⟩
theorem sloss_is (n:Int) (t:Bool) (w:World) (h:inR n 0 80000=t):Calls Tryz.prog 154 #[.int .i64 n] w fun e w'=>e = .returned (.bool t)∧w'=w:=by
 have C:=Lib.hid (fun w=>swithin_is n 0 80000 t w h)
 clear h
 go_enter Tryz.func154,Tryz.ntmps154
 go_wp2_with (go_at_call 78;refine(C.out _).mono ?_;rintro e w' ⟨rfl,rfl⟩)
 go_ret
 exact⟨rfl,rfl⟩
theorem ssine_is (n:Int) (t:Bool) (w:World) (h:inR n 0 9999=t):Calls Tryz.prog 151 #[.int .i64 n] w fun e w'=>e = .returned (.bool t)∧w'=w:=by
 have C:=Lib.hid (fun w=>swithin_is n 0 9999 t w h)
 clear h
 go_enter Tryz.func151,Tryz.ntmps151
 go_wp2_with (go_at_call 78;refine(C.out _).mono ?_;rintro e w' ⟨rfl,rfl⟩)
 go_ret
 exact⟨rfl,rfl⟩
theorem swave_is (n:Int) (t:Bool) (w:World) (h:inR n 1000 200000=t):Calls Tryz.prog 152 #[.int .i64 n] w fun e w'=>e = .returned (.bool t)∧w'=w:=by
 have C:=Lib.hid (fun w=>swithin_is n 1000 200000 t w h)
 clear h
 go_enter Tryz.func152,Tryz.ntmps152
 go_wp2_with (go_at_call 78;refine(C.out _).mono ?_;rintro e w' ⟨rfl,rfl⟩)
 go_ret
 exact⟨rfl,rfl⟩
@[irreducible] def rangeQ (lo hi a b:Int):Int:=if inR lo a b=true∧inR hi a b=true then(if hi<lo then 10 else 0)else 2
theorem rangeQ_zero {lo hi a b:Int} : rangeQ lo hi a b=0↔a≤lo∧lo≤hi∧hi≤b:=by
 unfold rangeQ
 simp only[inR_yes]
 split
 ·split
  ·exact⟨fun h=>absurd h (by decide),fun h=>by omega⟩
  ·exact⟨fun _=>by omega,fun _=>rfl⟩
 ·exact⟨fun h=>absurd h (by decide),fun h=>by omega⟩
theorem rangeQ_far {lo hi a b:Int} (h:¬(inR lo a b=true∧inR hi a b=true)):rangeQ lo hi a b=2:=by unfold rangeQ;rw[if_neg h]
theorem rangeQ_order {lo hi a b:Int} (h:inR lo a b=true) (k:inR hi a b=true) (l:hi<lo):rangeQ lo hi a b=10:=by unfold rangeQ;rw[if_pos ⟨h,k⟩,if_pos l]
theorem rangeQ_ok {lo hi a b:Int} (h:inR lo a b=true) (k:inR hi a b=true) (l:¬hi<lo):rangeQ lo hi a b=0:=by unfold rangeQ;rw[if_pos ⟨h,k⟩,if_neg l]
set_option maxHeartbeats 4000000 in
theorem rerr_any (lo hi a b:Int) (k:Nat) (w:World) (eg:∀args w,(callFunc k args).run Tryz.prog w = .ok (.enter k args) w)
  (H:∀n t w,inR n a b=t→Calls Tryz.prog k #[.int .i64 n] w fun e w'=>e = .returned (.bool t)∧w'=w) :
  Calls Tryz.prog 65 #[.agg #[.int .i64 lo,.int .i64 hi],.func (.func k) #[] #[]] w fun e w'=>e = .returned (.int .i64 (rangeQ lo hi a b))∧Below w.heap.size w w':=by
 by_cases g0:inR lo a b=true
 case neg =>
  rw[rangeQ_far (fun h=>g0 h.1)]
  have H1:=Lib.hid (fun w=>H lo false w (by simpa using g0))
  clear H g0
  go_enter Tryz.func65,Tryz.ntmps65
  go_wp2_with fail
  refine(H1.out _).mono ?_
  rintro e w' ⟨rfl,rfl⟩
  repeat' (first|go_values|go_skip|go_guarded|go_step|go_upon|(simp only[];go_simp))
  go_ret
  exact⟨rfl,blw⟩
 have H1:=Lib.hid (fun w=>H lo true w g0)
 by_cases g1:inR hi a b=true
 case neg =>
  rw[rangeQ_far (fun h=>g1 h.2)]
  have H2:=Lib.hid (fun w=>H hi false w (by simpa using g1))
  clear H g1 g0
  go_enter Tryz.func65,Tryz.ntmps65
  go_wp2_with fail
  refine(H1.out _).mono ?_
  rintro e w' ⟨rfl,rfl⟩
  go_wp2_with fail
  refine(H2.out _).mono ?_
  rintro e w' ⟨rfl,rfl⟩
  repeat' (first|go_values|go_skip|go_guarded|go_step|go_upon|(simp only[];go_simp))
  go_ret
  exact⟨rfl,blw⟩
 have H2:=Lib.hid (fun w=>H hi true w g1)
 by_cases g2:hi<lo
 ·rw[rangeQ_order g0 g1 g2]
  clear H g1 g0
  go_enter Tryz.func65,Tryz.ntmps65
  go_wp2_with fail
  refine(H1.out _).mono ?_
  rintro e w' ⟨rfl,rfl⟩
  go_wp2_with fail
  refine(H2.out _).mono ?_
  rintro e w' ⟨rfl,rfl⟩
  repeat' (first|go_values|go_skip|go_guarded|go_step|go_upon|(simp only[];go_simp))
  go_ret
  exact⟨rfl,blw⟩
 rw[rangeQ_ok g0 g1 g2]
 clear H g1 g0
 go_enter Tryz.func65,Tryz.ntmps65
 go_wp2_with fail
 refine(H1.out _).mono ?_
 rintro e w' ⟨rfl,rfl⟩
 go_wp2_with fail
 refine(H2.out _).mono ?_
 rintro e w' ⟨rfl,rfl⟩
 repeat' (first|go_values|go_skip|go_guarded|go_step|go_upon|(simp only[];go_simp))
 go_ret
 exact⟨rfl,blw⟩
def askT (A:Ask):Int × Int :=
 if inR A.ix 5000 80000=true then
  if rangeQ A.sl A.sh 0 9999=0 then
   if inR A.po 0 1=true then
    if rangeQ A.wl A.wh 1000 200000=0 then
     if 40<A.ls.length then(0,8)
     else if (firstQ A.ls 0).2=0 then
      if inR A.oi 5000 80000=true∧inR A.ol 0 80000=true then(0,0)else(0,2)
     else((firstQ A.ls 0).1+1,(firstQ A.ls 0).2)
    else(0,rangeQ A.wl A.wh 1000 200000)
   else(0,11)
  else(0,rangeQ A.sl A.sh 0 9999)
 else(0,2)
@[irreducible] def ckI (A:Ask):Int:=(askT A).1
@[irreducible] def ckQ (A:Ask):Int:=(askT A).2
theorem ckIQ {A:Ask}{T:Int × Int} (h:askT A=T):ckI A=T.1∧ckQ A=T.2:=by unfold ckI ckQ;rw[h];exact⟨rfl,rfl⟩
theorem firstQ_ok:∀ {l:List Box}{i:Nat},(firstQ l i).2=0→∀b∈l,BoxOk b
 | [],_,_,b,hb=>by cases hb
 | c::l,i,h,b,hb=>by
  by_cases h0:boxQ c=0
  ·simp only[firstQ,if_pos h0]at h
   rcases List.mem_cons.1 hb with rfl|hb
   ·exact boxQ_zero.1 h0
   ·exact firstQ_ok h b hb
  ·simp only[firstQ,if_neg h0]at h
   exact absurd h h0
theorem ckQ_ok {A:Ask} (h:ckQ A=0):AskOk A:=by
 unfold ckQ askT at h
 split at h
 case isFalse=>exact absurd h (by decide)
 rename_i h0
 split at h
 case isFalse=>rename_i g;exact absurd h g
 rename_i h1
 split at h
 case isFalse=>exact absurd h (by decide)
 rename_i h2
 split at h
 case isFalse=>rename_i g;exact absurd h g
 rename_i h3
 split at h
 ·exact absurd h (by decide)
 rename_i h4
 split at h
 case isFalse=>rename_i g;exact absurd h g
 rename_i h5
 split at h
 case isFalse=>exact absurd h (by decide)
 rename_i h6
 rw[inR_yes]at h0 h2
 rw[rangeQ_zero]at h1 h3
 simp only[inR_yes]at h6
 exact⟨h0.1,h0.2,h1.1,h1.2.1,h1.2.2,by omega,h3.1,h3.2.1,h3.2.2,firstQ_ok h5,by omega,h6.1.1,h6.1.2,h6.2.1,h6.2.2⟩
theorem askT_1 {A:Ask} (h:¬inR A.ix 5000 80000=true):askT A=(0,2):=by unfold askT;rw[if_neg h]
theorem askT_2 {A:Ask} (h:inR A.ix 5000 80000=true) (k:¬rangeQ A.sl A.sh 0 9999=0):askT A=(0,rangeQ A.sl A.sh 0 9999):=by unfold askT;rw[if_pos h,if_neg k]
theorem askT_3 {A:Ask} (h:inR A.ix 5000 80000=true) (k:rangeQ A.sl A.sh 0 9999=0) (l:¬inR A.po 0 1=true):askT A=(0,11):=by unfold askT;rw[if_pos h,if_pos k,if_neg l]
theorem askT_4 {A:Ask} (h:inR A.ix 5000 80000=true) (k:rangeQ A.sl A.sh 0 9999=0) (l:inR A.po 0 1=true) (m:¬rangeQ A.wl A.wh 1000 200000=0):askT A=(0,rangeQ A.wl A.wh 1000 200000):=by
 unfold askT;rw[if_pos h,if_pos k,if_pos l,if_neg m]
structure AskHead (A:Ask):Prop where
 h:inR A.ix 5000 80000=true
 k:rangeQ A.sl A.sh 0 9999=0
 l:inR A.po 0 1=true
 m:rangeQ A.wl A.wh 1000 200000=0
theorem askT_5 {A:Ask} (h:AskHead A) (c:40<A.ls.length):askT A=(0,8):=by unfold askT;rw[if_pos h.h,if_pos h.k,if_pos h.l,if_pos h.m,if_pos c]
theorem askT_6 {A:Ask} (h:AskHead A) (c:¬40<A.ls.length) (d:¬(firstQ A.ls 0).2=0):askT A=((firstQ A.ls 0).1+1,(firstQ A.ls 0).2):=by
 unfold askT;rw[if_pos h.h,if_pos h.k,if_pos h.l,if_pos h.m,if_neg c,if_neg d]
theorem askT_7 {A:Ask} (h:AskHead A) (c:¬40<A.ls.length) (d:(firstQ A.ls 0).2=0) (f:¬(inR A.oi 5000 80000=true∧inR A.ol 0 80000=true)):askT A=(0,2):=by
 unfold askT;rw[if_pos h.h,if_pos h.k,if_pos h.l,if_pos h.m,if_neg c,if_pos d,if_neg f]
theorem askT_8 {A:Ask} (h:AskHead A) (c:¬40<A.ls.length) (d:(firstQ A.ls 0).2=0) (f:inR A.oi 5000 80000=true∧inR A.ol 0 80000=true):askT A=(0,0):=by
 unfold askT;rw[if_pos h.h,if_pos h.k,if_pos h.l,if_pos h.m,if_neg c,if_pos d,if_pos f]
theorem hidF_no {ls:List Box}{T:Int × Int}{k:Nat}{b:Box}{q:Int} (h:HidF ls T k) (hb:ls[k]?=some b) (h0:boxQ b=q) (hq:q≠0) (h1:HidF ls T 0):(firstQ ls 0).1=k∧(firstQ ls 0).2=q:=by
 obtain⟨z1,z2⟩:=hidF_bad h hb h0 hq
 have e:firstQ ls 0=T:=h1
 rw[e]
 exact⟨z1,z2⟩
theorem ckIQ_no {A:Ask}{T:Int × Int}{k:Nat}{b:Box}{q:Int} (H:AskHead A) (c:¬40<A.ls.length) (h1:HidF A.ls T 0) (h:HidF A.ls T k) (hb:A.ls[k]?=some b) (h0:boxQ b=q) (hq:q≠0):ckI A=k+1∧ckQ A=q:=by
 obtain⟨z1,z2⟩:=hidF_no h hb h0 hq h1
 have:=ckIQ (askT_6 H c (by rw[z2];exact hq))
 rw[z1,z2]at this
 exact this
theorem hidF_all {ls:List Box}{T:Int × Int}{k:Nat} (h:HidF ls T k) (hk:k=ls.length) (h1:HidF ls T 0):(firstQ ls 0).2=0:=by
 have e:firstQ ls 0=T:=h1
 rw[e]
 exact(hidF_end h hk).2
set_option maxHeartbeats 4000000 in
theorem CheckAsk_head (A:Ask) (w:World) (h:¬AskHead A∨40<A.ls.length) :
  Calls Tryz.prog 99 #[A.val] w fun e w'=>e = .returned (.tuple #[.int .i64 (ckI A),.int .i64 (ckQ A)])∧Below w.heap.size w w':=by
 by_cases g0:inR A.ix 5000 80000=true
 case neg =>
  rw[(ckIQ (askT_1 g0)).1,(ckIQ (askT_1 g0)).2]
  have g0':inR A.ix 5000 80000=false:=by simpa using g0
  clear h g0
  unfold Ask.val
  generalize A.ls.length=n
  go_enter Tryz.func99,Tryz.ntmps99
  go_wp2_with fail
  refine(sidx_is _ _ _ g0').mono ?_
  rintro e w' ⟨rfl,rfl⟩
  repeat' (first|go_values|go_skip|go_guarded|go_step|go_upon|(simp only[];go_simp))
  go_ret2
  exact⟨rfl,blw⟩
 have C1:=Lib.hid (fun w=>rerr_any A.sl A.sh 0 9999 151 w (enters_of Tryz.func151 (by kernel_rfl) rfl) ssine_is)
 have C2:=Lib.hid (fun w=>rerr_any A.wl A.wh 1000 200000 152 w (enters_of Tryz.func152 (by kernel_rfl) rfl) swave_is)
 by_cases g1:rangeQ A.sl A.sh 0 9999=0
 case neg =>
  rw[(ckIQ (askT_2 g0 g1)).1,(ckIQ (askT_2 g0 g1)).2]
  clear h C2
  unfold Ask.val
  generalize rangeQ A.sl A.sh 0 9999=q at *
  generalize A.ls.length=n
  go_enter Tryz.func99,Tryz.ntmps99
  go_wp2_with fail
  refine(sidx_is _ _ _ g0).mono ?_
  rintro e w' ⟨rfl,rfl⟩
  go_wp2_with fail
  refine(C1.out _).mono ?_
  rintro e w1 ⟨rfl,A0⟩
  have A1:=A0.size
  (try simp at A1)
  repeat' (first|go_values|go_skip|go_guarded|go_step|go_upon|(simp only[];go_simp))
  go_ret2
  exact⟨rfl,blw⟩
 by_cases g2:inR A.po 0 1=true
 case neg =>
  rw[(ckIQ (askT_3 g0 g1 g2)).1,(ckIQ (askT_3 g0 g1 g2)).2]
  rw[g1]at C1
  have g2':inR A.po 0 1=false:=by simpa using g2
  clear h C2 g1 g2
  unfold Ask.val
  generalize A.ls.length=n
  go_enter Tryz.func99,Tryz.ntmps99
  go_wp2_with fail
  refine(sidx_is _ _ _ g0).mono ?_
  rintro e w' ⟨rfl,rfl⟩
  go_wp2_with fail
  refine(C1.out _).mono ?_
  rintro e w1 ⟨rfl,A0⟩
  have A1:=A0.size
  (try simp at A1)
  have A4:=bl5 A0 (w.heap.size)
  go_wp2_with fail
  refine(swithin_is _ _ _ _ _ g2').mono ?_
  rintro e w' ⟨rfl,rfl⟩
  repeat' (first|go_values|go_skip|go_guarded|go_step|go_upon|(simp only[];go_simp))
  go_ret2
  exact⟨rfl,blw⟩
 by_cases g3:rangeQ A.wl A.wh 1000 200000=0
 case neg =>
  rw[(ckIQ (askT_4 g0 g1 g2 g3)).1,(ckIQ (askT_4 g0 g1 g2 g3)).2]
  rw[g1]at C1
  clear h g1
  unfold Ask.val
  generalize rangeQ A.wl A.wh 1000 200000=q at *
  generalize A.ls.length=n
  go_enter Tryz.func99,Tryz.ntmps99
  go_wp2_with fail
  refine(sidx_is _ _ _ g0).mono ?_
  rintro e w' ⟨rfl,rfl⟩
  go_wp2_with fail
  refine(C1.out _).mono ?_
  rintro e w1 ⟨rfl,A0⟩
  have A1:=A0.size
  (try simp at A1)
  have A4:=bl5 A0 (w.heap.size)
  go_wp2_with fail
  refine(swithin_is _ _ _ _ _ g2).mono ?_
  rintro e w' ⟨rfl,rfl⟩
  go_wp2_with fail
  refine(C2.out _).mono ?_
  rintro e w2 ⟨rfl,A2⟩
  have A3:=A2.size
  (try simp at A3)
  repeat' (first|go_values|go_skip|go_guarded|go_step|go_upon|(simp only[];go_simp))
  go_ret2
  exact⟨rfl,blw⟩
 have hc:40<A.ls.length:=by
  rcases h with h|h
  ·exact absurd ⟨g0,g1,g2,g3⟩ h
  ·exact h
 rw[(ckIQ (askT_5 ⟨g0,g1,g2,g3⟩ hc)).1,(ckIQ (askT_5 ⟨g0,g1,g2,g3⟩ hc)).2]
 rw[g1]at C1
 rw[g3]at C2
 clear h g1 g3
 unfold Ask.val
 generalize A.ls.length=n at *
 have hi:(40:Int)<n:=by omega
 go_enter Tryz.func99,Tryz.ntmps99
 go_wp2_with fail
 refine(sidx_is _ _ _ g0).mono ?_
 rintro e w' ⟨rfl,rfl⟩
 go_wp2_with fail
 refine(C1.out _).mono ?_
 rintro e w1 ⟨rfl,A0⟩
 have A1:=A0.size
 (try simp at A1)
 have A4:=bl5 A0 (w.heap.size)
 go_wp2_with fail
 refine(swithin_is _ _ _ _ _ g2).mono ?_
 rintro e w' ⟨rfl,rfl⟩
 go_wp2_with fail
 refine(C2.out _).mono ?_
 rintro e w2 ⟨rfl,A2⟩
 have A3:=A2.size
 (try simp at A3)
 have A6:=bl5 A2 (w.heap.size)
 repeat' (first|go_values|go_skip|go_guarded|go_step|go_upon|(simp only[];go_simp))
 go_ret2
 exact⟨rfl,blw⟩
end Go.Proofs.YticobgianbecpaaGreatDoor
namespace Go.Proofs.YticobgianbecpaaGreatDoor
open Go Go.Sort Go.RowKit
set_option maxRecDepth 100000 in
set_option maxHeartbeats 8000000 in
theorem CheckAsk_loop (A:Ask) (H:AskHead A) (c:¬40<A.ls.length) (w:World) (hr:Row A.pa A.ls w) :
  Calls Tryz.prog 99 #[A.val] w fun e w'=>e = .returned (.tuple #[.int .i64 (ckI A),.int .i64 (ckQ A)])∧Below w.heap.size w w':=by
 have C1:=Lib.hid (fun w=>rerr_any A.sl A.sh 0 9999 151 w (enters_of Tryz.func151 (by kernel_rfl) rfl) ssine_is)
 have C2:=Lib.hid (fun w=>rerr_any A.wl A.wh 1000 200000 152 w (enters_of Tryz.func152 (by kernel_rfl) rfl) swave_is)
 rw[H.k]at C1
 rw[H.m]at C2
 have i0:=H.h
 have p0:=H.l
 obtain⟨T,hT⟩:∃T,HidF A.ls T 0:=⟨_,rfl⟩
 have NO:=Lib.hid (fun k b q h hb h0 hq=>ckIQ_no (k:=k) (b:=b) (q:=q) H c hT h hb h0 hq)
 have AL:=Lib.hid (fun k (h:HidF A.ls T k) hk=>hidF_all h hk hT)
 have Z7:=Lib.hid (fun d f=>ckIQ (askT_7 H c d f))
 have Z8:=Lib.hid (fun d f=>ckIQ (askT_8 H c d f))
 have hl:¬40<A.ls.length:=c
 have hli:¬((40:Int)<A.ls.length):=by omega
 clear H c
 generalize ckI A=I at *
 generalize ckQ A=Q at *
 unfold Ask.val
 generalize A.pa=pa at *
 go_enter Tryz.func99,Tryz.ntmps99
 go_wp2_with fail
 refine(sidx_is _ _ _ i0).mono ?_
 rintro e w' ⟨rfl,rfl⟩
 go_wp2_with fail
 refine(C1.out _).mono ?_
 rintro e w1 ⟨rfl,A0⟩
 have A1:=A0.size
 (try simp at A1)
 have A4:=bl5 A0 (w.heap.size)
 go_wp2_with fail
 refine(swithin_is _ _ _ _ _ p0).mono ?_
 rintro e w' ⟨rfl,rfl⟩
 go_wp2_with fail
 refine(C2.out _).mono ?_
 rintro e w2 ⟨rfl,A2⟩
 have A3:=A2.size
 (try simp at A3)
 have A6:=bl5 A2 (w.heap.size)
 go_wp2_with fail
 go_loopw [35] (fun i wr=>∃k:Nat,k≤A.ls.length∧i = .int .i64 k∧Below w.heap.size w wr∧w.heap.size<wr.heap.size∧(∀o,wr.cell? ⟨w.heap.size,o,none⟩=(#[.int .i64 A.ix,.int .i64 A.sl,.int .i64 A.sh,.int .i64 A.po,.int .i64 A.wl,.int .i64 A.wh,.slice pa A.ls.length A.cap,.int .i64 A.oi,.int .i64 A.ol]:Array Value)[o]?)∧HidF A.ls T k) (fun i _=>A.ls.length-(intOf i).toNat)
 case atStart=>exact⟨0,by omega,rfl,blw,by omega,fun o=>by go_simp,hT⟩
 case round =>
  obtain⟨k,hk,rfl,A5,A8,A7,HF⟩:=hrel
  by_cases hlt:k<A.ls.length
  ·obtain⟨b,hb⟩:∃b,A.ls[k]?=some b:=⟨_,List.getElem?_eq_getElem hlt⟩
   obtain⟨a,ha,hal,hE⟩:=hr.get k b hb
   subst ha
   have hE:=boxAt.bel hE A5 hal
   obtain⟨E1,E2,E3,E4,E5⟩:=hE
   have hal2:(a.add (k*5)).block<wr.heap.size:=by have:=A5.size;omega
   have hlt2:(k:Int)<A.ls.length:=by omega
   have HN:=Lib.hid (hidF_next HF hb)
   have HB:=Lib.hid (fun q h0 hq=>NO.out k b q HF hb h0 hq)
   clear hT HF hr hb NO AL Z7 Z8
   by_cases g0:inR b.il 5000 80000=true
   case neg =>
    obtain⟨z1,z2⟩:=HB.out 2 (boxQ_range (fun h=>g0 h.1)) (by decide)
    subst z1;subst z2
    have g0':inR b.il 5000 80000=false:=by simpa using g0
    clear HN HB g0
    go_wp2_with fail
    refine(sidx_is _ _ _ g0').mono ?_
    rintro e w' ⟨rfl,rfl⟩
    repeat' (first|go_values|go_skip|go_guarded|go_step|go_upon|(simp only[];go_simp))
    go_ret2
    exact⟨rfl,blw⟩
   by_cases g1:inR b.ih 5000 80000=true
   case neg =>
    obtain⟨z1,z2⟩:=HB.out 2 (boxQ_range (fun h=>g1 h.2.1)) (by decide)
    subst z1;subst z2
    have g1':inR b.ih 5000 80000=false:=by simpa using g1
    clear HN HB g1
    go_wp2_with fail
    refine(sidx_is _ _ _ g0).mono ?_
    rintro e w' ⟨rfl,rfl⟩
    go_wp2_with fail
    refine(sidx_is _ _ _ g1').mono ?_
    rintro e w' ⟨rfl,rfl⟩
    repeat' (first|go_values|go_skip|go_guarded|go_step|go_upon|(simp only[];go_simp))
    go_ret2
    exact⟨rfl,blw⟩
   by_cases g2:inR b.tl 0 1000000=true
   case neg =>
    obtain⟨z1,z2⟩:=HB.out 2 (boxQ_range (fun h=>g2 h.2.2.1)) (by decide)
    subst z1;subst z2
    have g2':inR b.tl 0 1000000=false:=by simpa using g2
    clear HN HB g2
    go_wp2_with fail
    refine(sidx_is _ _ _ g0).mono ?_
    rintro e w' ⟨rfl,rfl⟩
    go_wp2_with fail
    refine(sidx_is _ _ _ g1).mono ?_
    rintro e w' ⟨rfl,rfl⟩
    go_wp2_with fail
    refine(sthick_is _ _ _ g2').mono ?_
    rintro e w' ⟨rfl,rfl⟩
    repeat' (first|go_values|go_skip|go_guarded|go_step|go_upon|(simp only[];go_simp))
    go_ret2
    exact⟨rfl,blw⟩
   by_cases g3:inR b.th 0 1000000=true
   case neg =>
    obtain⟨z1,z2⟩:=HB.out 2 (boxQ_range (fun h=>g3 h.2.2.2.1)) (by decide)
    subst z1;subst z2
    have g3':inR b.th 0 1000000=false:=by simpa using g3
    clear HN HB g3
    go_wp2_with fail
    refine(sidx_is _ _ _ g0).mono ?_
    rintro e w' ⟨rfl,rfl⟩
    go_wp2_with fail
    refine(sidx_is _ _ _ g1).mono ?_
    rintro e w' ⟨rfl,rfl⟩
    go_wp2_with fail
    refine(sthick_is _ _ _ g2).mono ?_
    rintro e w' ⟨rfl,rfl⟩
    go_wp2_with fail
    refine(sthick_is _ _ _ g3').mono ?_
    rintro e w' ⟨rfl,rfl⟩
    repeat' (first|go_values|go_skip|go_guarded|go_step|go_upon|(simp only[];go_simp))
    go_ret2
    exact⟨rfl,blw⟩
   by_cases g4:inR b.lo 0 80000=true
   case neg =>
    obtain⟨z1,z2⟩:=HB.out 2 (boxQ_range (fun h=>g4 h.2.2.2.2)) (by decide)
    subst z1;subst z2
    have g4':inR b.lo 0 80000=false:=by simpa using g4
    clear HN HB g4
    go_wp2_with fail
    refine(sidx_is _ _ _ g0).mono ?_
    rintro e w' ⟨rfl,rfl⟩
    go_wp2_with fail
    refine(sidx_is _ _ _ g1).mono ?_
    rintro e w' ⟨rfl,rfl⟩
    go_wp2_with fail
    refine(sthick_is _ _ _ g2).mono ?_
    rintro e w' ⟨rfl,rfl⟩
    go_wp2_with fail
    refine(sthick_is _ _ _ g3).mono ?_
    rintro e w' ⟨rfl,rfl⟩
    go_wp2_with fail
    refine(sloss_is _ _ _ g4').mono ?_
    rintro e w' ⟨rfl,rfl⟩
    repeat' (first|go_values|go_skip|go_guarded|go_step|go_upon|(simp only[];go_simp))
    go_ret2
    exact⟨rfl,blw⟩
   by_cases d0:b.ih<b.il
   case pos =>
    obtain⟨z1,z2⟩:=HB.out 10 (boxQ_order ⟨g0,g1,g2,g3,g4⟩ (.inl d0)) (by decide)
    subst z1;subst z2
    clear HN HB
    go_wp2_with fail
    refine(sidx_is _ _ _ g0).mono ?_
    rintro e w' ⟨rfl,rfl⟩
    go_wp2_with fail
    refine(sidx_is _ _ _ g1).mono ?_
    rintro e w' ⟨rfl,rfl⟩
    go_wp2_with fail
    refine(sthick_is _ _ _ g2).mono ?_
    rintro e w' ⟨rfl,rfl⟩
    go_wp2_with fail
    refine(sthick_is _ _ _ g3).mono ?_
    rintro e w' ⟨rfl,rfl⟩
    go_wp2_with fail
    refine(sloss_is _ _ _ g4).mono ?_
    rintro e w' ⟨rfl,rfl⟩
    repeat' (first|go_values|go_skip|go_guarded|go_step|go_upon|(simp only[];go_simp))
    go_ret2
    exact⟨rfl,blw⟩
   by_cases d1:b.th<b.tl
   case pos =>
    obtain⟨z1,z2⟩:=HB.out 10 (boxQ_order ⟨g0,g1,g2,g3,g4⟩ (.inr d1)) (by decide)
    subst z1;subst z2
    clear HN HB
    go_wp2_with fail
    refine(sidx_is _ _ _ g0).mono ?_
    rintro e w' ⟨rfl,rfl⟩
    go_wp2_with fail
    refine(sidx_is _ _ _ g1).mono ?_
    rintro e w' ⟨rfl,rfl⟩
    go_wp2_with fail
    refine(sthick_is _ _ _ g2).mono ?_
    rintro e w' ⟨rfl,rfl⟩
    go_wp2_with fail
    refine(sthick_is _ _ _ g3).mono ?_
    rintro e w' ⟨rfl,rfl⟩
    go_wp2_with fail
    refine(sloss_is _ _ _ g4).mono ?_
    rintro e w' ⟨rfl,rfl⟩
    repeat' (first|go_values|go_skip|go_guarded|go_step|go_upon|(simp only[];go_simp))
    go_ret2
    exact⟨rfl,blw⟩
   have HN:=HN.out (boxQ_ok ⟨g0,g1,g2,g3,g4⟩ (by omega))
   clear HB
   go_wp2_with fail
   refine(sidx_is _ _ _ g0).mono ?_
   rintro e w' ⟨rfl,rfl⟩
   go_wp2_with fail
   refine(sidx_is _ _ _ g1).mono ?_
   rintro e w' ⟨rfl,rfl⟩
   go_wp2_with fail
   refine(sthick_is _ _ _ g2).mono ?_
   rintro e w' ⟨rfl,rfl⟩
   go_wp2_with fail
   refine(sthick_is _ _ _ g3).mono ?_
   rintro e w' ⟨rfl,rfl⟩
   go_wp2_with fail
   refine(sloss_is _ _ _ g4).mono ?_
   rintro e w' ⟨rfl,rfl⟩
   go_wp2_with fail
   go_roundw
   case rel=>exact⟨k+1,by omega,by first|(simp;done)|(simp;omega),blw,by first|(simp;done)|(simp;omega),fun o=>by go_simp,HN⟩
   case measure=>simp[intOf];omega
  ·have hke:k=A.ls.length:=by omega
   have hlt2:¬(k:Int)<A.ls.length:=by omega
   have d:=AL.out k HF hke
   clear hke AL NO HF hT
   by_cases g0:inR A.oi 5000 80000=true
   case neg =>
    obtain⟨z1,z2⟩:=Z7.out d (fun h=>g0 h.1)
    subst z1;subst z2
    have g0':inR A.oi 5000 80000=false:=by simpa using g0
    clear Z7 Z8 g0
    go_wp2_with fail
    refine(sidx_is _ _ _ g0').mono ?_
    rintro e w' ⟨rfl,rfl⟩
    repeat' (first|go_values|go_skip|go_guarded|go_step|go_upon|(simp only[];go_simp))
    go_ret2
    exact⟨rfl,blw⟩
   by_cases g1:inR A.ol 0 80000=true
   case neg =>
    obtain⟨z1,z2⟩:=Z7.out d (fun h=>g1 h.2)
    subst z1;subst z2
    have g1':inR A.ol 0 80000=false:=by simpa using g1
    clear Z7 Z8 g1
    go_wp2_with fail
    refine(sidx_is _ _ _ g0).mono ?_
    rintro e w' ⟨rfl,rfl⟩
    go_wp2_with fail
    refine(sloss_is _ _ _ g1').mono ?_
    rintro e w' ⟨rfl,rfl⟩
    repeat' (first|go_values|go_skip|go_guarded|go_step|go_upon|(simp only[];go_simp))
    go_ret2
    exact⟨rfl,blw⟩
   obtain⟨z1,z2⟩:=Z8.out d ⟨g0,g1⟩
   subst z1;subst z2
   clear Z7 Z8
   go_wp2_with fail
   refine(sidx_is _ _ _ g0).mono ?_
   rintro e w' ⟨rfl,rfl⟩
   go_wp2_with fail
   refine(sloss_is _ _ _ g1).mono ?_
   rintro e w' ⟨rfl,rfl⟩
   repeat' (first|go_values|go_skip|go_guarded|go_step|go_upon|(simp only[];go_simp))
   go_ret2
   exact⟨rfl,blw⟩
theorem CheckAsk_any (A:Ask) (w:World) (hr:Row A.pa A.ls w) :
  Calls Tryz.prog 99 #[A.val] w fun e w'=>e = .returned (.tuple #[.int .i64 (ckI A),.int .i64 (ckQ A)])∧Below w.heap.size w w':=by
 by_cases h:AskHead A
 ·by_cases c:40<A.ls.length
  ·exact CheckAsk_head A w (.inr c)
  ·exact CheckAsk_loop A h c w hr
 ·exact CheckAsk_head A w (.inl h)
end Go.Proofs.YticobgianbecpaaGreatDoor
