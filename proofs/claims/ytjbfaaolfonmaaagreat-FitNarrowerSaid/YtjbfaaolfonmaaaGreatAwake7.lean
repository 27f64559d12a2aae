/- What the statements of chapter 7 begin with. -/
import Derived.Test.YtjbfaaolfonmaaaGreatExample
import Derived.Test.YtjbfaaolfonmaaaGreatKChange
import Derived.Test.YtjbfaaolfonmaaaGreatKHalf
namespace Go.Proofs.YtjbfaaolfonmaaaGreat
open Go Go.Sort Go.RowKit
theorem small_ex (g1 g2:Nat) (w:World) (a0:w.cell? ⟨g1,0,none⟩=some (.int .i64 1)) (a1:w.cell? ⟨g1,1,none⟩=some (.int .i64 0)) (a2:w.cell? ⟨g1,2,none⟩=some (.int .i64 0)) (a3:w.cell? ⟨g1,3,none⟩=some (.int .i64 1))
  (a4:w.cell? ⟨g1,4,none⟩=some (.int .i64 1)) (a5:w.cell? ⟨g1,5,none⟩=some (.int .i64 1)) (b0:w.cell? ⟨g2,0,none⟩=some (.int .i64 1)) (b1:w.cell? ⟨g2,1,none⟩=some (.int .i64 2)) (b2:w.cell? ⟨g2,2,none⟩=some (.int .i64 4)) :
  Calls Tryz.prog 24 #[.slice (some ⟨g1,0,none⟩) 3 3,.slice (some ⟨g2,0,none⟩) 3 3] w fun E w' =>
   E = .returned (.tuple #[.agg #[.int .i64 4,.int .i64 3,.int .i64 7,.int .i64 3],.int .i64 0])∧Below w.heap.size w w':=by
 let Z:Nat→Nat→Int:=fun i j=>match i,j with|0,0=>1|0,1=>0|1,0=>0|1,1=>1|2,0=>1|2,1=>1|_,_=>0
 let Y:Nat→Nat→Int:=fun i _=>match i with|0=>1|1=>2|2=>4|_=>0
 have hz:Zs (some ⟨g1,0,none⟩) 3 2 Z w:=⟨fun i hi=>⟨_,rfl,fun j hj=>by
  match i,hi,j,hj with
  | 0,_,0,_=>exact a0
  | 0,_,1,_=>exact a1
  | 1,_,0,_=>exact a2
  | 1,_,1,_=>exact a3
  | 2,_,0,_=>exact a4
  | 2,_,1,_=>exact a5⟩⟩
 have hy:Zs (some ⟨g2,0,none⟩) 3 1 Y w:=⟨fun i hi=>⟨_,rfl,fun j hj=>by
  match i,hi,j,hj with
  | 0,_,0,_=>exact b0
  | 1,_,0,_=>exact b1
  | 2,_,0,_=>exact b2⟩⟩
 have h:=SmallChange_any (some ⟨g1,0,none⟩) (some ⟨g2,0,none⟩) 3 3 3 3 Z Y (by decide) (by decide) w hz hy
 have e1:(smallC (Z · 0) (Z · 1) (Y · 0) 3 3).an=4:=by decide +kernel
 have e2:(smallC (Z · 0) (Z · 1) (Y · 0) 3 3).ad=3:=by decide +kernel
 have e3:(smallC (Z · 0) (Z · 1) (Y · 0) 3 3).bn=7:=by decide +kernel
 have e4:(smallC (Z · 0) (Z · 1) (Y · 0) 3 3).bd=3:=by decide +kernel
 have e5:(smallC (Z · 0) (Z · 1) (Y · 0) 3 3).q=0:=by decide +kernel
 unfold Fit.ret at h
 rw[e1,e2,e3,e4,e5]at h
 exact h
def box7:Box:=⟨20000,20000,0,9,0⟩
theorem cut_ex (g:Nat) (w:World) (hr:Row (some ⟨g,0,none⟩) [box7] w) :
  Calls Tryz.prog 23 #[.slice (some ⟨g,0,none⟩) 1 1,.int .i64 1] w fun E w'=>Cut [⟨20000,20000,0,4,0⟩] [⟨20000,20000,5,9,0⟩] 1 w E w' (.int .i64 0):=by
 have h:=CutOf_ok ⟨g,0,none⟩ [box7] 1 1 box7 rfl (by decide +kernel) (by decide +kernel) (by decide) w hr
 have e1:lowHalf [box7] 1 = [⟨20000,20000,0,4,0⟩]:=by rw[lowHalf_is (b:=box7) rfl];rfl
 have e2:highHalf [box7] 1 = [⟨20000,20000,5,9,0⟩]:=by rw[highHalf_is (b:=box7) rfl];rfl
 rw[e1,e2]at h
 exact h
@[go_sem high] theorem run_eq_seen (w:World):(binOp .eql 33 (.agg #[.int .i64 (-6),.int .i64 6,.int .i64 (-1048576),.int .i64 (-1048562),.int .i64 (-9),.int .i64 9]) (.agg #[.int .i64 (-6),.int .i64 6,.int .i64 (-1048576),.int .i64 (-1048562),.int .i64 (-9),.int .i64 9])).run Tryz.prog w = .ok (.bool true) w:=by kernel_rfl
@[go_sem high] theorem run_eq_fit (w:World):(binOp .eql 54 (.agg #[.int .i64 4,.int .i64 3,.int .i64 7,.int .i64 3]) (.agg #[.int .i64 4,.int .i64 3,.int .i64 7,.int .i64 3])).run Tryz.prog w = .ok (.bool true) w:=by kernel_rfl
set_option maxRecDepth 100000 in
set_option maxHeartbeats 8000000 in
theorem awake7_any (w:World):Calls Tryz.prog 15 #[] w fun E w'=>E = .returned (.bool true)∧Below w.heap.size w w':=by
 go_enter Tryz.func15,Tryz.ntmps15
 go_wp2_with fail
 refine(setting_any _).mono ?_
 rintro e w1 ⟨rfl,A2⟩
 go_wp2_with fail
 refine(half_any _).mono ?_
 rintro e w2 ⟨rfl,hR,A3⟩
 go_wp2_with fail
 refine(glass_any _).mono ?_
 rintro e w3 ⟨rfl,A0⟩
 have hR:=hR.bel A0
 go_wp2_with fail
 refine(predicted_ex _ _ hR).mono ?_
 rintro e w4 ⟨rfl,A4⟩
 clear hR
 have hb4:Below w.heap.size w w4:=blw
 clear A2 A3 A0 A4
 go_wp2_with fail
 refine(small_ex (w4.heap.size+1) (w4.heap.size+1+1) _ (by go_simp) (by go_simp) (by go_simp) (by go_simp) (by go_simp) (by go_simp) (by go_simp) (by go_simp) (by go_simp)).mono ?_
 rintro e w5 ⟨rfl,A5⟩
 have A6:=bl5 A5 (w4.heap.size)
 go_wp2_with fail
 refine(cut_ex (w5.heap.size+1) _ (row_one (by simp) (by go_simp;rfl) (by go_simp;rfl) (by go_simp;rfl) (by go_simp;rfl) (by go_simp;rfl))).mono ?_
 rintro e w6 ⟨g0,c0,g1,c1,rfl,P0,P1,A1⟩
 have A7:=bl5 A1 (w4.heap.size)
 have A8:=bl5 A1 (w5.heap.size)
 obtain⟨_,l0,l1⟩:True∧g0<w6.heap.size∧g1<w6.heap.size:=⟨trivial,P0.hi,P1.hi⟩
 obtain⟨t0,t1⟩:=P0.range (d:=1) rfl
 obtain⟨t2,t3⟩:=P1.range (d:=1) rfl
 rw[cellAt_odd (by decide)]at t0 t1 t2 t3
 simp only[Box.dlo,Box.dhi]at t0 t1 t2 t3
 clear P0 P1
 repeat' (first|go_values|go_skip|go_guarded|go_step|go_upon|(simp only[];go_simp))
 go_ret
 exact⟨rfl,blw⟩
end Go.Proofs.YtjbfaaolfonmaaaGreat
