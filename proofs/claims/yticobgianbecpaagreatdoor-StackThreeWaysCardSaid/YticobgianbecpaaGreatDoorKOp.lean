/- Joined: OpenBad Pubs. -/
import Derived.Test.YticobgianbecpaaGreatDoorKYes
import Derived.Test.YticobgianbecpaaGreatDoorKRefl
import Derived.Deep.RegionHeld3
namespace Go.Proofs.YticobgianbecpaaGreatDoor
open Go Go.Sort Go.RowKit
theorem ask_mv_ok {A:Ask}{p:Option Addr}{c:Nat} (h:AskOk (A.mv p c)):AskOk A:=⟨h.i0,h.i1,h.s0,h.s1,h.s2,h.p0,h.w0,h.w1,h.w2,h.ls,h.len,h.oi0,h.oi1,h.ol0,h.ol1⟩
theorem ask_ok_mv {A:Ask} (h:AskOk A) (p:Option Addr) (c:Nat):AskOk (A.mv p c):=⟨h.i0,h.i1,h.s0,h.s1,h.s2,h.p0,h.w0,h.w1,h.w2,h.ls,h.len,h.oi0,h.oi1,h.ol0,h.ol1⟩
theorem len_wrap1 {n:Nat} (h:n≤40):wrap64 ((n:Int)+1)=n+1∧IntKind.i64.wrap ((n:Int)+1)=n+1:=⟨IntWalk.wrap64_in _ ⟨by omega,by omega⟩,IntWalk.i64_in _ ⟨by omega,by omega⟩⟩
set_option maxHeartbeats 2000000 in
theorem open_no (A:Ask) (w:World) (hr:Row A.pa A.ls w) :
  Calls Tryz.prog 35 #[A.val] w fun e w'=>∃n,e = .returned (.tuple #[.pointer (some ⟨n,0,none⟩),.int .i64 (ckQ A)])∧Below w.heap.size w w':=by
 have CK:=fun w hr=>CheckAsk_any A w hr
 unfold Ask.val at CK ⊢
 generalize ckI A=I at *
 generalize ckQ A=Q at *
 have CK:=Lib.hid CK
 have HR:=Lib.hid hr
 clear hr
 go_enter Tryz.func35,Tryz.ntmps35
 go_wp2_with fail
 refine(CK.out _ (HR.out.bel blw)).mono ?_
 rintro e w1 ⟨rfl,A0⟩
 have A1:=A0.size
 (try simp at A1)
 have A2:=bl5 A0 (w.heap.size)
 repeat' (first|go_values|go_skip|go_guarded|go_step|go_upon|(simp only[];go_simp))
 go_ret2
 exact⟨w1.heap.size,rfl,blw⟩
end Go.Proofs.YticobgianbecpaaGreatDoor
namespace Go.Proofs.YticobgianbecpaaGreatDoor
open Go Go.Sort Go.RowKit
abbrev bz (R:Res):Value := .complex .f64 (fl R.a) (fl R.b)
abbrev br (R:Res):Value := .int .i64 R.c
theorem aft_bad {q:Int} (h:¬q=0) (R:Res):(after q R).a=0∧(after q R).b=0∧(after q R).c=0:=by
 unfold after
 rw[if_neg h]
 obtain⟨h1,h2,h3,_⟩:=quad_bad q
 exact⟨h1,h2,h3⟩
theorem aft_good (R:Res):after 0 R=R:=by unfold after;rw[if_pos rfl]
@[irreducible] def opQ (A:Ask) (m lo bd:Int):Int:=if ckQ A=0 then(if inR m lo (A.ls.length+bd)=true then 0 else 6)else ckQ A
theorem ckQ_mv (A:Ask) (p:Option Addr) (c:Nat):ckQ (A.mv p c)=ckQ A:=by unfold ckQ;rfl
theorem opQ_mv (A:Ask) (p:Option Addr) (c:Nat) (m lo bd:Int):opQ (A.mv p c) m lo bd=opQ A m lo bd:=by unfold opQ;rw[ckQ_mv]
theorem opQ_ask {A:Ask}{m lo bd:Int} (h:¬ckQ A=0):opQ A m lo bd=ckQ A:=by unfold opQ;rw[if_neg h]
theorem opQ_out {A:Ask}{m lo bd:Int} (h:ckQ A=0) (k:inR m lo (A.ls.length+bd)=false):opQ A m lo bd=6:=by unfold opQ;rw[if_pos h,if_neg (by rw[k];decide)]
theorem opQ_in {A:Ask}{m lo bd:Int} (h:ckQ A=0) (k:inR m lo (A.ls.length+bd)=true):opQ A m lo bd=0:=by unfold opQ;rw[if_pos h,if_pos k]
theorem opQ_ok {A:Ask}{m lo bd:Int} (h:opQ A m lo bd=0):ckQ A=0∧lo≤m∧m≤A.ls.length+bd:=by
 by_cases c:ckQ A=0
 ·cases k:inR m lo (A.ls.length+bd)
  ·rw[opQ_out c k]at h;exact absurd h (by decide)
  ·exact⟨c,inR_yes.1 k⟩
 ·rw[opQ_ask c]at h;exact absurd h c
theorem layer_at {A:Ask}{m:Int} (h:opQ A m 1 0=0):∃(j:Nat) (b:Box),A.ls[j]?=some b∧m=j+1:=by
 obtain⟨_,h1,h2⟩:=opQ_ok h
 exact⟨(m-1).toNat,_,List.getElem?_eq_getElem (show(m-1).toNat<A.ls.length by omega),by omega⟩
theorem len_add {A:Ask} (h:A.ls.length≤40){bd:Int} (h0:0≤bd) (h1:bd≤1):wrap64 ((A.ls.length:Int)+bd)=A.ls.length+bd∧IntKind.i64.wrap ((A.ls.length:Int)+bd)=A.ls.length+bd :=
 ⟨IntWalk.wrap64_in _ ⟨by omega,by omega⟩,IntWalk.i64_in _ ⟨by omega,by omega⟩⟩
set_option maxHeartbeats 4000000 in
theorem result2_any (B:Nat) (q:Int) (X Y:Res) (w:World) (A3:St B q w) :
  Calls Tryz.prog 77 #[.pointer (some ⟨B,0,none⟩),.agg #[bz X,br X,bz Y,br Y]] w fun e w'=>e = .returned (.tuple #[.agg #[bz (after q X),br (after q X),bz (after q Y),br (after q Y)],.int .i64 q])∧Below w.heap.size w w':=by
 obtain⟨A6,A7,A8⟩:=A3
 have A4:B<w.heap.size+1:=by omega
 have A5:B<w.heap.size+1+1:=by omega
 have n0:¬B=w.heap.size:=by omega
 have n1:¬B=w.heap.size+1:=by omega
 have n2:¬B=w.heap.size+1+1:=by omega
 have m0:¬w.heap.size=B:=by omega
 have m1:¬w.heap.size+1=B:=by omega
 have m2:¬w.heap.size+1+1=B:=by omega
 by_cases hq:q=0
 ·subst hq
  rw[aft_good,aft_good]
  go_enter Tryz.func77,Tryz.ntmps77
  repeat' (first|go_values|go_skip|go_guarded|go_step|go_upon|(simp only[];go_simp))
  refine bodyPost_ret (by simp[results,Tryz.results77,go_sem, *];first|done|rfl) rfl ?_
  exact⟨rfl,blw⟩
 ·obtain⟨x1,x2,x3⟩:=aft_bad hq X
  obtain⟨y1,y2,y3⟩:=aft_bad hq Y
  unfold bz br
  rw[x1,x2,x3,y1,y2,y3]
  generalize X.a=xa
  generalize X.b=xb
  generalize X.c=xc
  generalize Y.a=ya
  generalize Y.b=yb
  generalize Y.c=yc
  have hq1:(q != 0)=true:=by simpa using hq
  clear hq x1 x2 x3 y1 y2 y3
  go_enter Tryz.func77,Tryz.ntmps77
  go_wp2_with fail
  go_region_held3 (fun w'=>w'.cell? ⟨B,0,none⟩=some (.int .i64 q)∧w'.cell? ⟨w.heap.size+1+1,0,none⟩=some (.complex .f64 0 0)∧w'.cell? ⟨w.heap.size+1+1,1,none⟩=some (.int .i64 0)∧w'.cell? ⟨w.heap.size+1+1,2,none⟩=some (.complex .f64 0 0)∧w'.cell? ⟨w.heap.size+1+1,3,none⟩=some (.int .i64 0)) (simp[*,go_sem]) (fail)
  repeat' (first|go_values|go_skip|go_guarded|go_step|go_upon|(simp only[];go_simp))
  refine bodyPost_ret (by simp[results,Tryz.results77,go_sem, *];first|done|rfl) rfl ?_
  exact⟨by rw[fl_zero],blw⟩
end Go.Proofs.YticobgianbecpaaGreatDoor
