/- The normal index and the admittance of a medium: the program's public functions, exactly. -/
import Derived.Test.YtnljkhlmdacfaaaGreatDoorPubs
import Derived.Test.YtnljkhlmdacfaaaGreatDoorKRa
namespace Go.Proofs.YtnljkhlmdacfaaaGreatDoor
open Go Go.Sort Go.RowKit
theorem med_num {A:Ask} (hA:AskOk A){m:Int} (h0:0≤m) (h1:m≤A.ls.length+1):Med A m (A.med m.toNat):=by
 by_cases c:m=0
 ·subst c
  show Med A 0 (A.med 0)
  rw[med_zero]
  exact med_front A hA
 ·by_cases d:m=A.ls.length+1
  ·have e:m.toNat=A.ls.length+1:=by omega
   rw[e,med_past,d]
   exact med_last A hA
  ·obtain⟨j,hj⟩:∃j:Nat,m=j+1:=⟨(m-1).toNat,by omega⟩
   have hl:j<A.ls.length:=by omega
   have e:m.toNat=j+1:=by omega
   have hb:=List.getElem?_eq_getElem hl
   have em:A.med (j+1)=A.ls[j]:=by unfold Ask.med;rw[if_neg (by omega),Nat.add_sub_cancel,hb]
   rw[e,em,hj]
   exact med_layer A hA j _ hb
theorem rmed_num {A:Ask} (hA:AskOk A){m:Int} (h0:0≤m) (h1:m≤A.ls.length+1):RMed A m (A.med m.toNat):=by
 by_cases c:m=0
 ·subst c
  show RMed A 0 (A.med 0)
  rw[med_zero]
  exact rmed_front A hA
 ·by_cases d:m=A.ls.length+1
  ·have e:m.toNat=A.ls.length+1:=by omega
   rw[e,med_past,d]
   exact rmed_last A hA
  ·obtain⟨j,hj⟩:∃j:Nat,m=j+1:=⟨(m-1).toNat,by omega⟩
   have hl:j<A.ls.length:=by omega
   have e:m.toNat=j+1:=by omega
   have hb:=List.getElem?_eq_getElem hl
   have em:A.med (j+1)=A.ls[j]:=by unfold Ask.med;rw[if_neg (by omega),Nat.add_sub_cancel,hb]
   rw[e,em,hj]
   exact rmed_layer A hA j _ hb
set_option maxHeartbeats 4000000 in
theorem NormalIndex_bad (A:Ask) (m:Int) (hq:¬opQ A m 0 1=0) (w:World) (hr:Row A.pa A.ls w) (hpa:∀a,A.pa=some a→a.block<w.heap.size) :
  Calls Tryz.prog 41 #[A.val,.int .i64 m] w fun e w'=>e = .returned (.tuple #[.agg #[.complex .f64 0 0,.int .i64 0],.int .i64 (opQ A m 0 1)])∧Below w.heap.size w w':=by
 have OP:=fun w hr hpa=>openMedium_bad A m 0 1 (by decide) (by decide) hq w hr hpa
 unfold Ask.val at OP ⊢
 generalize opQ A m 0 1=q at *
 have hq1:(q != 0)=true:=by simpa using hq
 have OP:=Lib.hid OP
 have HR:=Lib.hid hr
 have HP:=Lib.hid hpa
 clear hr hpa hq
 go_enter Tryz.func41,Tryz.ntmps41
 go_wp2_with fail
 refine(OP.out _ (HR.out.bel blw) (fun a h=>by have:=HP.out a h;simp;omega)).mono ?_
 rintro e w1 ⟨n,rfl,A0⟩
 obtain⟨A5,A4,A3,A1,A2⟩:=bl5 A0 (w.heap.size+1)
 repeat' (first|go_values|go_skip|go_guarded|go_step|go_upon|(simp only[];go_simp))
 refine bodyPost_ret (by simp[results,Tryz.results41,go_sem, *];first|done|rfl) rfl ?_
 exact⟨rfl,blw⟩
set_option maxHeartbeats 4000000 in
theorem Admittance_bad (A:Ask) (m:Int) (hq:¬opQ A m 0 1=0) (w:World) (hr:Row A.pa A.ls w) (hpa:∀a,A.pa=some a→a.block<w.heap.size) :
  Calls Tryz.prog 42 #[A.val,.int .i64 m] w fun e w'=>e = .returned (.tuple #[.agg #[.complex .f64 0 0,.int .i64 0],.int .i64 (opQ A m 0 1)])∧Below w.heap.size w w':=by
 have OP:=fun w hr hpa=>openMedium_bad A m 0 1 (by decide) (by decide) hq w hr hpa
 unfold Ask.val at OP ⊢
 generalize opQ A m 0 1=q at *
 have hq1:(q != 0)=true:=by simpa using hq
 have OP:=Lib.hid OP
 have HR:=Lib.hid hr
 have HP:=Lib.hid hpa
 clear hr hpa hq
 go_enter Tryz.func42,Tryz.ntmps42
 go_wp2_with fail
 refine(OP.out _ (HR.out.bel blw) (fun a h=>by have:=HP.out a h;simp;omega)).mono ?_
 rintro e w1 ⟨n,rfl,A0⟩
 obtain⟨A5,A4,A3,A1,A2⟩:=bl5 A0 (w.heap.size+1)
 repeat' (first|go_values|go_skip|go_guarded|go_step|go_upon|(simp only[];go_simp))
 refine bodyPost_ret (by simp[results,Tryz.results42,go_sem, *];first|done|rfl) rfl ?_
 exact⟨rfl,blw⟩
set_option maxHeartbeats 4000000 in
theorem NormalIndex_good (A:Ask) (m:Int) (b:Box) (hq:opQ A m 0 1=0) (hM:Med A m b) (w:World) (hr:Row A.pa A.ls w) (hpa:∀a,A.pa=some a→a.block<w.heap.size) :
  Calls Tryz.prog 41 #[A.val,.int .i64 m] w fun e w'=>e = .returned (out (norR 0 A b))∧Below w.heap.size w w':=by
 have hA:=ckQ_ok (opQ_ok hq).1
 rw[out_quad]
 have OP:=fun w hr hpa=>openMedium_good A m 0 1 (by decide) (by decide) hq w hr hpa
 unfold Ask.val at OP ⊢
 have NO:=fun n=>normal_any n 0 A m b hA hM
 have fR:=fine_nor 0 A b
 have RA:=fun B w S=>result_any B (norR 0 A b) fR w S
 rw[out_quad]at RA
 generalize norR 0 A b=R at *
 generalize stopR 0 A b=st at *
 have OP:=Lib.hid OP
 have NO:=Lib.hid NO
 have RA:=Lib.hid RA
 have HR:=Lib.hid hr
 have HP:=Lib.hid hpa
 clear hr hpa hA fR hM hq
 go_enter Tryz.func41,Tryz.ntmps41
 go_wp2_with fail
 refine(OP.out _ (HR.out.bel blw) (fun a h=>by have:=HP.out a h;simp;omega)).mono ?_
 rintro e w1 ⟨n,hn,rfl,hL,A0⟩
 simp at hn
 obtain⟨Ak,Aj,Ai,Ag,Ah⟩:=bl5 A0 (w.heap.size)
 obtain⟨A5,A4,A3,A1,A2⟩:=bl5 A0 (w.heap.size+1)
 go_wp2_with fail
 refine(NO.out n _ hL).mono ?_
 rintro e w2 ⟨rfl,A6⟩
 have Am:=A6.size_le
 have A7:=fun o=>A6.other (k:=w.heap.size+1) (o:=o) (by omega) (ne_addr (by omega))
 have A9:=fun o=>A6.free (k:=w.heap.size+1) (o:=o) (by omega)
 have Al:Below w.heap.size w w2:=Below.trans (show Below w.heap.size w w1 from blw) (A6.below (by omega) (by omega))
 have HL:=Lib.hid (hL.turn A6)
 clear hL
 have Ad:w.heap.size+1<w2.heap.size:=by omega
 go_wp2_with fail
 refine(RA.out n _ (HL.out.bel (show Below w2.heap.size w2 _ from blw)).st).mono ?_
 rintro e w3 ⟨rfl,Af⟩
 obtain⟨Ae,Ac,Ab,A8,Aa⟩:=bl5 Af (w.heap.size+1)
 repeat' (first|go_values|go_skip|go_guarded|go_step|go_upon|(simp only[];go_simp))
 refine bodyPost_ret (by simp[results,Tryz.results41,go_sem, *];first|done|rfl) rfl ?_
 exact⟨rfl,blw⟩
@[irreducible] def nixR (A:Ask) (m:Int):Res:=if opQ A m 0 1=0 then norR 0 A (A.med m.toNat)else .bad (opQ A m 0 1)
@[irreducible] def admM (A:Ask) (m:Int):Res:=if opQ A m 0 1=0 then admR 0 A (A.med m.toNat)else .bad (opQ A m 0 1)
theorem nix_ok {A:Ask}{m:Int} (h:opQ A m 0 1=0):nixR A m=norR 0 A (A.med m.toNat):=by unfold nixR;rw[if_pos h]
theorem nix_bad {A:Ask}{m:Int} (h:¬opQ A m 0 1=0):nixR A m = .bad (opQ A m 0 1):=by unfold nixR;rw[if_neg h]
theorem admM_ok {A:Ask}{m:Int} (h:opQ A m 0 1=0):admM A m=admR 0 A (A.med m.toNat):=by unfold admM;rw[if_pos h]
theorem admM_bad {A:Ask}{m:Int} (h:¬opQ A m 0 1=0):admM A m = .bad (opQ A m 0 1):=by unfold admM;rw[if_neg h]
theorem NormalIndex_at (A:Ask) (g c:Nat) (m:Int) (w:World) (hr:Row (some ⟨g,0,none⟩) A.ls w) (hg:g<w.heap.size) :
  Calls Tryz.prog 41 #[(A.mv (some ⟨g,0,none⟩) c).val,.int .i64 m] w fun e w'=>e = .returned (out (nixR A m))∧Below w.heap.size w w':=by
 have e1:=opQ_mv A (some ⟨g,0,none⟩) c m 0 1
 by_cases hq:opQ A m 0 1=0
 ·have h:=opQ_ok (e1.trans hq)
  have hA:=ckQ_ok h.1
  have k:=NormalIndex_good _ m _ (e1.trans hq) (med_num hA h.2.1 h.2.2) w hr (fun a h=>by cases h;exact hg)
  rw[nor_mv,med_mv]at k
  rw[nix_ok hq]
  exact k
 ·have k:=NormalIndex_bad _ m (by rw[e1];exact hq) w hr (fun a h=>by cases h;exact hg)
  rw[e1]at k
  rw[nix_bad hq]
  exact k
theorem Admittance_at (A:Ask) (g c:Nat) (m:Int) (w:World) (hr:Row (some ⟨g,0,none⟩) A.ls w) (hg:g<w.heap.size) :
  Calls Tryz.prog 42 #[(A.mv (some ⟨g,0,none⟩) c).val,.int .i64 m] w fun e w'=>e = .returned (out (admM A m))∧Below w.heap.size w w':=by
 have e1:=opQ_mv A (some ⟨g,0,none⟩) c m 0 1
 by_cases hq:opQ A m 0 1=0
 ·have h:=opQ_ok (e1.trans hq)
  have hA:=ckQ_ok h.1
  have k:=Admittance_any _ hA m _ h.2.1 h.2.2 (med_num hA h.2.1 h.2.2) w hr (fun a h=>by cases h;exact hg)
  rw[adm_mv,med_mv]at k
  rw[admM_ok hq]
  exact k
 ·have k:=Admittance_bad _ m (by rw[e1];exact hq) w hr (fun a h=>by cases h;exact hg)
  rw[e1]at k
  rw[admM_bad hq]
  exact k
end Go.Proofs.YtnljkhlmdacfaaaGreatDoor
