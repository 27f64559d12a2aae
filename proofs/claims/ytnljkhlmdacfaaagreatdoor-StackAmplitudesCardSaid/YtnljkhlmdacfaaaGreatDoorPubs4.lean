/- The result of four balls: the program's walk. -/
import Derived.Test.YtnljkhlmdacfaaaGreatDoorOpenBad
namespace Go.Proofs.YtnljkhlmdacfaaaGreatDoor
open Go Go.Sort Go.RowKit
abbrev bz (R:Res):Value := .complex .f64 (fl R.a) (fl R.b)
abbrev br (R:Res):Value := .int .i64 R.c
theorem aft_bad {q:Int} (h:¬q=0) (R:Res):(after q R).a=0∧(after q R).b=0∧(after q R).c=0:=by
 unfold after
 rw[if_neg h]
 obtain⟨h1,h2,h3,_⟩:=quad_bad q
 exact⟨h1,h2,h3⟩
theorem aft_good (R:Res):after 0 R=R:=by unfold after;rw[if_pos rfl]
theorem ckQ_mv (A:Ask) (p:Option Addr) (c:Nat):ckQ (A.mv p c)=ckQ A:=by unfold ckQ;rfl
set_option maxHeartbeats 4000000 in
theorem result4_any (B:Nat) (q:Int) (X Y Z V:Res) (w:World) (A0:St B q w) :
  Calls Tryz.prog 100 #[.pointer (some ⟨B,0,none⟩),.agg #[bz X,br X,bz Y,br Y,bz Z,br Z,bz V,br V]] w fun e w'=>e = .returned (.tuple #[.agg #[bz (after q X),br (after q X),bz (after q Y),br (after q Y),bz (after q Z),br (after q Z),bz (after q V),br (after q V)],.int .i64 q])∧Below w.heap.size w w':=by
 obtain⟨A3,A4,A5⟩:=A0
 have A1:B<w.heap.size+1:=by omega
 have A2:B<w.heap.size+1+1:=by omega
 have n0:¬B=w.heap.size:=by omega
 have n1:¬B=w.heap.size+1:=by omega
 have n2:¬B=w.heap.size+1+1:=by omega
 have m0:¬w.heap.size=B:=by omega
 have m1:¬w.heap.size+1=B:=by omega
 have m2:¬w.heap.size+1+1=B:=by omega
 by_cases hq:q=0
 ·subst hq
  rw[aft_good,aft_good,aft_good,aft_good]
  go_enter Tryz.func100,Tryz.ntmps100
  repeat' (first|go_values|go_skip|go_guarded|go_step|go_upon|(simp only[];go_simp))
  refine bodyPost_ret (by simp[results,Tryz.results100,go_sem, *];first|done|rfl) rfl ?_
  exact⟨rfl,blw⟩
 ·obtain⟨x1,x2,x3⟩:=aft_bad hq X
  obtain⟨y1,y2,y3⟩:=aft_bad hq Y
  obtain⟨p1,p2,p3⟩:=aft_bad hq Z
  obtain⟨r1,r2,r3⟩:=aft_bad hq V
  unfold bz br
  rw[x1,x2,x3,y1,y2,y3,p1,p2,p3,r1,r2,r3]
  generalize X.a=xa
  generalize X.b=xb
  generalize X.c=xc
  generalize Y.a=ya
  generalize Y.b=yb
  generalize Y.c=yc
  generalize Z.a=za
  generalize Z.b=zb
  generalize Z.c=zc
  generalize V.a=va
  generalize V.b=vb
  generalize V.c=vc
  have hq1:(q != 0)=true:=by simpa using hq
  clear hq x1 x2 x3 y1 y2 y3 p1 p2 p3 r1 r2 r3
  go_enter Tryz.func100,Tryz.ntmps100
  go_wp2_with fail
  go_region_held3 (fun w'=>w'.cell? ⟨B,0,none⟩=some (.int .i64 q)∧w'.cell? ⟨w.heap.size+1+1,0,none⟩=some (.complex .f64 0 0)∧w'.cell? ⟨w.heap.size+1+1,1,none⟩=some (.int .i64 0)∧w'.cell? ⟨w.heap.size+1+1,2,none⟩=some (.complex .f64 0 0)∧w'.cell? ⟨w.heap.size+1+1,3,none⟩=some (.int .i64 0)∧w'.cell? ⟨w.heap.size+1+1,4,none⟩=some (.complex .f64 0 0)∧w'.cell? ⟨w.heap.size+1+1,5,none⟩=some (.int .i64 0)∧w'.cell? ⟨w.heap.size+1+1,6,none⟩=some (.complex .f64 0 0)∧w'.cell? ⟨w.heap.size+1+1,7,none⟩=some (.int .i64 0)) (simp[*,go_sem]) (fail)
  repeat' (first|go_values|go_skip|go_guarded|go_step|go_upon|(simp only[];go_simp))
  refine bodyPost_ret (by simp[results,Tryz.results100,go_sem, *];first|done|rfl) rfl ?_
  exact⟨by rw[fl_zero],blw⟩
end Go.Proofs.YtnljkhlmdacfaaaGreatDoor
