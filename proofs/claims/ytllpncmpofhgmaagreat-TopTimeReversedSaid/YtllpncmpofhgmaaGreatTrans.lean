/- The transmitted amplitude, and the admittance of a medium: the program's walks. -/
import Derived.Test.YtllpncmpofhgmaaGreatKRefl
import Derived.Test.YtllpncmpofhgmaaGreatAmpYes
import Derived.Test.YtllpncmpofhgmaaGreatKAsk
namespace Go.Proofs.YtllpncmpofhgmaaGreat
open Go Go.Sort Go.RowKit
set_option maxHeartbeats 2000000 in
theorem Transmitted_any (A:Ask) (hA:AskOk A) (w:World) (hr:Row A.pa A.ls w) (hpa:∀a,A.pa=some a→a.block<w.heap.size) :
  Calls Tryz.prog 12 #[A.val] w fun e w'=>e = .returned (out (ampR A true))∧Below w.heap.size w w':=by
 rw[out_quad]
 have OP:=fun w hr hpa=>open_any A hA w hr hpa
 unfold Ask.val at OP ⊢
 have AM:=fun n=>amp_yes n A hA
 have fR:=fine_amp A true
 have RA:=fun B w S=>result_any B (ampR A true) fR w S
 rw[out_quad]at RA
 generalize ampR A true=R at *
 have OP:=Lib.hid OP
 have AM:=Lib.hid AM
 have RA:=Lib.hid RA
 have HR:=Lib.hid hr
 have HP:=Lib.hid hpa
 clear hr hpa hA fR
 go_enter Tryz.func12,Tryz.ntmps12
 go_wp2_with fail
 refine(OP.out _ (HR.out.bel blw) (fun a h=>by have:=HP.out a h;simp;omega)).mono ?_
 rintro e w1 ⟨n,hn,rfl,hL,A1⟩
 simp at hn
 have A6:=bl5 A1 (w.heap.size)
 have A7:=bl5 A1 (w.heap.size+1)
 go_wp2_with fail
 refine(AM.out n _ hL).mono ?_
 rintro e w2 ⟨rfl,A0⟩
 have Aa:=A0.size_le
 have A2:=fun o=>A0.other (k:=w.heap.size+1) (o:=o) (by omega) (ne_addr (by omega))
 have A3:=fun o=>A0.free (k:=w.heap.size+1) (o:=o) (by omega)
 have A9:Below w.heap.size w w2:=Below.trans (show Below w.heap.size w w1 from blw) (A0.below (by omega) (by omega))
 have hS:=(hL.turn A0).st
 clear hL
 have A4:w.heap.size+1<w2.heap.size:=by omega
 go_wp2_with fail
 refine(RA.out n _ hS).mono ?_
 rintro e w3 ⟨rfl,A5⟩
 have A8:=bl5 A5 (w.heap.size+1)
 repeat' (first|go_values|go_skip|go_guarded|go_step|go_upon|(simp only[];go_simp))
 refine bodyPost_ret (by simp[results,Tryz.results12,go_sem, *];first|done|rfl) rfl ?_
 exact⟨rfl,blw⟩
set_option maxHeartbeats 2000000 in
theorem openMedium_any (A:Ask) (hA:AskOk A) (m:Int) (h0:0≤m) (h1:m≤A.ls.length+1) (w:World) (hr:Row A.pa A.ls w) (hpa:∀a,A.pa=some a→a.block<w.heap.size) :
  Calls Tryz.prog 47 #[A.val,.int .i64 m,.int .i64 0,.int .i64 1] w fun e w'=>∃n,w.heap.size≤n∧e = .returned (.tuple #[.pointer (some ⟨n,0,none⟩),.int .i64 0])∧Lt n 0 A w'∧Below w.heap.size w w':=by
 have OP:=fun w hr hpa=>open_any A hA w hr hpa
 have hlen:=hA.len
 unfold Ask.val at OP ⊢
 have WI:=Lib.hid (fun w=>swithin_is m 0 (A.ls.length+1) true w (inR_yes.2 ⟨h0,h1⟩))
 have hw1:wrap64 ((A.ls.length:Int)+1)=A.ls.length+1:=IntWalk.wrap64_in _ ⟨by omega,by omega⟩
 have hw2:IntKind.i64.wrap ((A.ls.length:Int)+1)=A.ls.length+1:=IntWalk.i64_in _ ⟨by omega,by omega⟩
 have OP:=Lib.hid OP
 have HR:=Lib.hid hr
 have HP:=Lib.hid hpa
 clear hr hpa hA h0 h1 hlen
 go_enter Tryz.func47,Tryz.ntmps47
 go_wp2_with fail
 refine(OP.out _ (HR.out.bel blw) (fun a h=>by have:=HP.out a h;simp;omega)).mono ?_
 rintro e w1 ⟨n,hn,rfl,hL,A1⟩
 have HL:=Lib.hid hL
 clear hL
 simp at hn
 have A6:=bl5 A1 (w.heap.size)
 go_wp2_with fail
 refine(WI.out _).mono ?_
 rintro e w2 ⟨rfl,hw2'⟩
 rw[hw2'];clear hw2' w2
 repeat' (first|go_values|go_skip|go_guarded|go_step|go_upon|(simp only[];go_simp))
 refine bodyPost_ret (by simp[results,Tryz.results47,go_sem, *];first|done|rfl) rfl ?_
 exact⟨n,by omega,rfl,HL.out,blw⟩
set_option maxHeartbeats 2000000 in
theorem Admittance_any (A:Ask) (hA:AskOk A) (m:Int) (b:Box) (h0:0≤m) (h1:m≤A.ls.length+1) (hM:Med A m b) (w:World) (hr:Row A.pa A.ls w) (hpa:∀a,A.pa=some a→a.block<w.heap.size) :
  Calls Tryz.prog 17 #[A.val,.int .i64 m] w fun e w'=>e = .returned (out (admR 0 A b))∧Below w.heap.size w w':=by
 rw[out_quad]
 have OP:=fun w hr hpa=>openMedium_any A hA m h0 h1 w hr hpa
 unfold Ask.val at OP ⊢
 have AM:=fun n=>adm_any n 0 A m b hA hM
 have fR:=fine_adm 0 A b
 have RA:=fun B w S=>result_any B (admR 0 A b) fR w S
 rw[out_quad]at RA
 generalize admR 0 A b=R at *
 have OP:=Lib.hid OP
 have AM:=Lib.hid AM
 have RA:=Lib.hid RA
 have HR:=Lib.hid hr
 have HP:=Lib.hid hpa
 clear hr hpa hA fR hM h0 h1
 go_enter Tryz.func17,Tryz.ntmps17
 go_wp2_with fail
 refine(OP.out _ (HR.out.bel blw) (fun a h=>by have:=HP.out a h;simp;omega)).mono ?_
 rintro e w1 ⟨n,hn,rfl,hL,A1⟩
 simp at hn
 have A6:=bl5 A1 (w.heap.size)
 have A7:=bl5 A1 (w.heap.size+1)
 go_wp2_with fail
 refine(AM.out n _ hL).mono ?_
 rintro e w2 ⟨rfl,A0⟩
 have Aa:=A0.size_le
 have A2:=fun o=>A0.other (k:=w.heap.size+1) (o:=o) (by omega) (ne_addr (by omega))
 have A3:=fun o=>A0.free (k:=w.heap.size+1) (o:=o) (by omega)
 have A9:Below w.heap.size w w2:=Below.trans (show Below w.heap.size w w1 from blw) (A0.below (by omega) (by omega))
 have hS:=(hL.turn A0).st
 clear hL
 have A4:w.heap.size+1<w2.heap.size:=by omega
 go_wp2_with fail
 refine(RA.out n _ hS).mono ?_
 rintro e w3 ⟨rfl,A5⟩
 have A8:=bl5 A5 (w.heap.size+1)
 repeat' (first|go_values|go_skip|go_guarded|go_step|go_upon|(simp only[];go_simp))
 refine bodyPost_ret (by simp[results,Tryz.results17,go_sem, *];first|done|rfl) rfl ?_
 exact⟨rfl,blw⟩
end Go.Proofs.YtllpncmpofhgmaaGreat
