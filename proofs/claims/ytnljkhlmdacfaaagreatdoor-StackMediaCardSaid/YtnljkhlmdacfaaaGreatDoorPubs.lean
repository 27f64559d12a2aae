/- The public functions of one medium or layer: the program's walks. -/
import Derived.Test.YtnljkhlmdacfaaaGreatDoorOpenBad
namespace Go.Proofs.YtnljkhlmdacfaaaGreatDoor
open Go Go.Sort Go.RowKit
abbrev bz (R:Res):Value := .complex .f64 (fl R.a) (fl R.b)
abbrev br (R:Res):Value := .int .i64 R.c
theorem aft_bad {q:Int} (h:¬q=0) (R:Res):(after q R).a=0∧(after q R).b=0∧(after q R).c=0:=by
 unfold after
 rw[if_neg h]
 obtain⟨h1,h2,h3,_⟩:=quad_bad q
 exact⟨h1,h2,h3⟩
theorem aft_good (R:Res):after 0 R=R:=by unfold after;rw[if_pos rfl]
@[irreducible] def opQ (A:Ask) (m lo bd:Int):Int:=if ckQ A=0 then(if inR m lo (A.ls.length+bd)=true then 0 else 6)else ckQ A
theorem ckQ_mv (A:Ask) (p:Option Addr) (c:Nat):ckQ (A.mv p c)=ckQ A:=by unfold ckQ;rfl
theorem opQ_mv (A:Ask) (p:Option Addr) (c:Nat) (m lo bd:Int):opQ (A.mv p c) m lo bd=opQ A m lo bd:=by unfold opQ;rw[ckQ_mv]
theorem opQ_ask {A:Ask}{m lo bd:Int} (h:¬ckQ A=0):opQ A m lo bd=ckQ A:=by unfold opQ;rw[if_neg h]
theorem opQ_out {A:Ask}{m lo bd:Int} (h:ckQ A=0) (k:inR m lo (A.ls.length+bd)=false):opQ A m lo bd=6:=by unfold opQ;rw[if_pos h,if_neg (by rw[k];decide)]
theorem opQ_in {A:Ask}{m lo bd:Int} (h:ckQ A=0) (k:inR m lo (A.ls.length+bd)=true):opQ A m lo bd=0:=by unfold opQ;rw[if_pos h,if_pos k]
theorem opQ_ok {A:Ask}{m lo bd:Int} (h:opQ A m lo bd=0):ckQ A=0∧lo≤m∧m≤A.ls.length+bd:=by
 by_cases c:ckQ A=0
 ·cases k:inR m lo (A.ls.length+bd)
  ·rw[opQ_out c k]at h;exact absurd h (by decide)
  ·exact⟨c,inR_yes.1 k⟩
 ·rw[opQ_ask c]at h;exact absurd h c
theorem layer_at {A:Ask}{m:Int} (h:opQ A m 1 0=0):∃(j:Nat) (b:Box),A.ls[j]?=some b∧m=j+1:=by
 obtain⟨_,h1,h2⟩:=opQ_ok h
 exact⟨(m-1).toNat,_,List.getElem?_eq_getElem (show(m-1).toNat<A.ls.length by omega),by omega⟩
theorem len_add {A:Ask} (h:A.ls.length≤40){bd:Int} (h0:0≤bd) (h1:bd≤1):wrap64 ((A.ls.length:Int)+bd)=A.ls.length+bd∧IntKind.i64.wrap ((A.ls.length:Int)+bd)=A.ls.length+bd :=
 ⟨IntWalk.wrap64_in _ ⟨by omega,by omega⟩,IntWalk.i64_in _ ⟨by omega,by omega⟩⟩
set_option maxHeartbeats 2000000 in
theorem openMedium_good (A:Ask) (m lo bd:Int) (b0:0≤bd) (b1:bd≤1) (hq:opQ A m lo bd=0) (w:World) (hr:Row A.pa A.ls w) (hpa:∀a,A.pa=some a→a.block<w.heap.size) :
  Calls Tryz.prog 113 #[A.val,.int .i64 m,.int .i64 lo,.int .i64 bd] w fun e w'=>∃n,w.heap.size≤n∧e = .returned (.tuple #[.pointer (some ⟨n,0,none⟩),.int .i64 0])∧Lt n 0 A w'∧Below w.heap.size w w':=by
 obtain⟨hk,h0,h1⟩:=opQ_ok hq
 have hA:=ckQ_ok hk
 have OP:=fun w hr hpa=>open_any A hA w hr hpa
 unfold Ask.val at OP ⊢
 have WI:=Lib.hid (fun w=>swithin_is m lo (A.ls.length+bd) true w (inR_yes.2 ⟨h0,h1⟩))
 obtain⟨hw1,hw2⟩:=len_add hA.len b0 b1
 have OP:=Lib.hid OP
 have HR:=Lib.hid hr
 have HP:=Lib.hid hpa
 clear hr hpa hA h0 h1 hq hk b0 b1
 go_enter Tryz.func113,Tryz.ntmps113
 go_wp2_with fail
 refine(OP.out _ (HR.out.bel blw) (fun a h=>by have:=HP.out a h;simp;omega)).mono ?_
 rintro e w1 ⟨n,hn,rfl,hL,A0⟩
 have HL:=Lib.hid hL
 clear hL
 simp at hn
 have A1:=A0.size
 (try simp at A1)
 have A2:=bl5 A0 (w.heap.size)
 go_wp2_with fail
 refine(WI.out _).mono ?_
 rintro e w2 ⟨rfl,hw2'⟩
 rw[hw2'];clear hw2' w2
 repeat' (first|go_values|go_skip|go_guarded|go_step|go_upon|(simp only[];go_simp))
 refine bodyPost_ret (by simp[results,Tryz.results113,go_sem, *];first|done|rfl) rfl ?_
 exact⟨n,by omega,rfl,HL.out,blw⟩
set_option maxHeartbeats 2000000 in
theorem openMedium_bad (A:Ask) (m lo bd:Int) (b0:0≤bd) (b1:bd≤1) (hq:¬opQ A m lo bd=0) (w:World) (hr:Row A.pa A.ls w) (hpa:∀a,A.pa=some a→a.block<w.heap.size) :
  Calls Tryz.prog 113 #[A.val,.int .i64 m,.int .i64 lo,.int .i64 bd] w fun e w'=>∃n,e = .returned (.tuple #[.pointer (some ⟨n,0,none⟩),.int .i64 (opQ A m lo bd)])∧Below w.heap.size w w':=by
 by_cases c:ckQ A=0
 case neg =>
  rw[opQ_ask c]at hq ⊢
  have OP:=fun w hr=>open_no A w hr
  unfold Ask.val at OP ⊢
  generalize ckQ A=Q at *
  have hq1:(Q==0)=false:=by simpa using hq
  have OP:=Lib.hid OP
  have HR:=Lib.hid hr
  clear hr hpa hq c b0 b1
  go_enter Tryz.func113,Tryz.ntmps113
  go_wp2_with fail
  refine(OP.out _ (HR.out.bel blw)).mono ?_
  rintro e w1 ⟨n,rfl,A0⟩
  have A1:=A0.size
  (try simp at A1)
  have A2:=bl5 A0 (w.heap.size)
  repeat' (first|go_values|go_skip|go_guarded|go_step|go_upon|(simp only[];go_simp))
  refine bodyPost_ret (by simp[results,Tryz.results113,go_sem, *];first|done|rfl) rfl ?_
  exact⟨n,rfl,blw⟩
 have hA:=ckQ_ok c
 have OP:=fun w hr hpa=>open_any A hA w hr hpa
 unfold Ask.val at OP ⊢
 have hin:inR m lo (A.ls.length+bd)=false:=by
  cases k:inR m lo (A.ls.length+bd)
  ·rfl
  ·exact absurd (opQ_in c k) hq
 rw[opQ_out c hin]
 have WI:=Lib.hid (fun w=>swithin_is m lo (A.ls.length+bd) false w hin)
 obtain⟨hw1,hw2⟩:=len_add hA.len b0 b1
 have OP:=Lib.hid OP
 have HR:=Lib.hid hr
 have HP:=Lib.hid hpa
 clear hr hpa hA hq c hin b0 b1
 go_enter Tryz.func113,Tryz.ntmps113
 go_wp2_with fail
 refine(OP.out _ (HR.out.bel blw) (fun a h=>by have:=HP.out a h;simp;omega)).mono ?_
 rintro e w1 ⟨n,hn,rfl,hL,A0⟩
 clear hL
 simp at hn
 have A1:=A0.size
 (try simp at A1)
 have A2:=bl5 A0 (w.heap.size)
 go_wp2_with fail
 refine(WI.out _).mono ?_
 rintro e w2 ⟨rfl,hw2'⟩
 rw[hw2'];clear hw2' w2
 repeat' (first|go_values|go_skip|go_guarded|go_step|go_upon|(simp only[];go_simp))
 refine bodyPost_ret (by simp[results,Tryz.results113,go_sem, *];first|done|rfl) rfl ?_
 exact⟨n,rfl,blw⟩
set_option maxHeartbeats 4000000 in
theorem result2_any (B:Nat) (q:Int) (X Y:Res) (w:World) (A3:St B q w) :
  Calls Tryz.prog 117 #[.pointer (some ⟨B,0,none⟩),.agg #[bz X,br X,bz Y,br Y]] w fun e w'=>e = .returned (.tuple #[.agg #[bz (after q X),br (after q X),bz (after q Y),br (after q Y)],.int .i64 q])∧Below w.heap.size w w':=by
 obtain⟨A6,A7,A8⟩:=A3
 have A4:B<w.heap.size+1:=by omega
 have A5:B<w.heap.size+1+1:=by omega
 have n0:¬B=w.heap.size:=by omega
 have n1:¬B=w.heap.size+1:=by omega
 have n2:¬B=w.heap.size+1+1:=by omega
 have m0:¬w.heap.size=B:=by omega
 have m1:¬w.heap.size+1=B:=by omega
 have m2:¬w.heap.size+1+1=B:=by omega
 by_cases hq:q=0
 ·subst hq
  rw[aft_good,aft_good]
  go_enter Tryz.func117,Tryz.ntmps117
  repeat' (first|go_values|go_skip|go_guarded|go_step|go_upon|(simp only[];go_simp))
  refine bodyPost_ret (by simp[results,Tryz.results117,go_sem, *];first|done|rfl) rfl ?_
  exact⟨rfl,blw⟩
 ·obtain⟨x1,x2,x3⟩:=aft_bad hq X
  obtain⟨y1,y2,y3⟩:=aft_bad hq Y
  unfold bz br
  rw[x1,x2,x3,y1,y2,y3]
  generalize X.a=xa
  generalize X.b=xb
  generalize X.c=xc
  generalize Y.a=ya
  generalize Y.b=yb
  generalize Y.c=yc
  have hq1:(q != 0)=true:=by simpa using hq
  clear hq x1 x2 x3 y1 y2 y3
  go_enter Tryz.func117,Tryz.ntmps117
  go_wp2_with fail
  go_region_held3 (fun w'=>w'.cell? ⟨B,0,none⟩=some (.int .i64 q)∧w'.cell? ⟨w.heap.size+1+1,0,none⟩=some (.complex .f64 0 0)∧w'.cell? ⟨w.heap.size+1+1,1,none⟩=some (.int .i64 0)∧w'.cell? ⟨w.heap.size+1+1,2,none⟩=some (.complex .f64 0 0)∧w'.cell? ⟨w.heap.size+1+1,3,none⟩=some (.int .i64 0)) (simp[*,go_sem]) (fail)
  repeat' (first|go_values|go_skip|go_guarded|go_step|go_upon|(simp only[];go_simp))
  refine bodyPost_ret (by simp[results,Tryz.results117,go_sem, *];first|done|rfl) rfl ?_
  exact⟨by rw[fl_zero],blw⟩
set_option maxHeartbeats 4000000 in
theorem result4_any (B:Nat) (q:Int) (X Y Z V:Res) (w:World) (A3:St B q w) :
  Calls Tryz.prog 100 #[.pointer (some ⟨B,0,none⟩),.agg #[bz X,br X,bz Y,br Y,bz Z,br Z,bz V,br V]] w fun e w'=>e = .returned (.tuple #[.agg #[bz (after q X),br (after q X),bz (after q Y),br (after q Y),bz (after q Z),br (after q Z),bz (after q V),br (after q V)],.int .i64 q])∧Below w.heap.size w w':=by
 obtain⟨A6,A7,A8⟩:=A3
 have A4:B<w.heap.size+1:=by omega
 have A5:B<w.heap.size+1+1:=by omega
 have n0:¬B=w.heap.size:=by omega
 have n1:¬B=w.heap.size+1:=by omega
 have n2:¬B=w.heap.size+1+1:=by omega
 have m0:¬w.heap.size=B:=by omega
 have m1:¬w.heap.size+1=B:=by omega
 have m2:¬w.heap.size+1+1=B:=by omega
 by_cases hq:q=0
 ·subst hq
  rw[aft_good,aft_good,aft_good,aft_good]
  go_enter Tryz.func100,Tryz.ntmps100
  repeat' (first|go_values|go_skip|go_guarded|go_step|go_upon|(simp only[];go_simp))
  refine bodyPost_ret (by simp[results,Tryz.results100,go_sem, *];first|done|rfl) rfl ?_
  exact⟨rfl,blw⟩
 ·obtain⟨x1,x2,x3⟩:=aft_bad hq X
  obtain⟨y1,y2,y3⟩:=aft_bad hq Y
  obtain⟨p1,p2,p3⟩:=aft_bad hq Z
  obtain⟨r1,r2,r3⟩:=aft_bad hq V
  unfold bz br
  rw[x1,x2,x3,y1,y2,y3,p1,p2,p3,r1,r2,r3]
  generalize X.a=xa
  generalize X.b=xb
  generalize X.c=xc
  generalize Y.a=ya
  generalize Y.b=yb
  generalize Y.c=yc
  generalize Z.a=za
  generalize Z.b=zb
  generalize Z.c=zc
  generalize V.a=va
  generalize V.b=vb
  generalize V.c=vc
  have hq1:(q != 0)=true:=by simpa using hq
  clear hq x1 x2 x3 y1 y2 y3 p1 p2 p3 r1 r2 r3
  go_enter Tryz.func100,Tryz.ntmps100
  go_wp2_with fail
  go_region_held3 (fun w'=>w'.cell? ⟨B,0,none⟩=some (.int .i64 q)∧w'.cell? ⟨w.heap.size+1+1,0,none⟩=some (.complex .f64 0 0)∧w'.cell? ⟨w.heap.size+1+1,1,none⟩=some (.int .i64 0)∧w'.cell? ⟨w.heap.size+1+1,2,none⟩=some (.complex .f64 0 0)∧w'.cell? ⟨w.heap.size+1+1,3,none⟩=some (.int .i64 0)∧w'.cell? ⟨w.heap.size+1+1,4,none⟩=some (.complex .f64 0 0)∧w'.cell? ⟨w.heap.size+1+1,5,none⟩=some (.int .i64 0)∧w'.cell? ⟨w.heap.size+1+1,6,none⟩=some (.complex .f64 0 0)∧w'.cell? ⟨w.heap.size+1+1,7,none⟩=some (.int .i64 0)) (simp[*,go_sem]) (fail)
  repeat' (first|go_values|go_skip|go_guarded|go_step|go_upon|(simp only[];go_simp))
  refine bodyPost_ret (by simp[results,Tryz.results100,go_sem, *];first|done|rfl) rfl ?_
  exact⟨by rw[fl_zero],blw⟩
end Go.Proofs.YtnljkhlmdacfaaaGreatDoor
