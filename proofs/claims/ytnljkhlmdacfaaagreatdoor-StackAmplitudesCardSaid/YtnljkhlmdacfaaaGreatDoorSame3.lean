/- The helpers of the statements of chapter 3: the same ball as the reference's, and balls that are zero values. -/
import Derived.Test.YtnljkhlmdacfaaaGreatDoorKRef
import Derived.Deep.RegionHeld3
namespace Go.Proofs.YtnljkhlmdacfaaaGreatDoor
open Go Go.Sort Go.RowKit
set_option maxHeartbeats 1000000 in
theorem same3_any (a b r:Int) (w:World) :
  Calls Tryz.prog 35 #[.agg #[.complex .f64 (fl a) (fl b),.int .i64 r],.agg #[.int .i64 a,.int .i64 b,.int .i64 r]] w fun e w'=>e = .returned (.bool true)∧Below w.heap.size w w':=by
 go_enter Tryz.func35,Tryz.ntmps35
 go_wp2_with fail
 refine calm_all (by kernel_rfl) (by kernel_rfl) fun hG => ?_
 have Ag:=hG (w.heap.size) lto
 have A2:=hG (w.heap.size+1) lto
 clear hG
 repeat (go_big_quiet_step (first|(go_at_call 104;with_reducible exact calm_call (fun w=>rBall_any _ _ _ w))|(go_at_call 64;with_reducible exact calm_call (fun w=>SameBall_same _ _ _ w))))
 refine wpQuiet_nil ?_
 intro w2 A0
 clear Ag A2
 have Aa:=A0.size
 (try simp at Aa)
 obtain⟨Af,Ae,Ad,Ab,Ac⟩:=bl5 A0 (w.heap.size)
 obtain⟨A8,A7,A6,A4,A5⟩:=bl5 A0 (w.heap.size+1)
 go_wp2
 go_ret
 exact⟨rfl,blw⟩
structure ZeroBalls (g n:Nat) (w:World):Prop where
 lt:g<w.heap.size
 re:∀k,k<n→w.cell? ⟨g,k*2,none⟩=some (.complex .f64 0 0)
 ra:∀k,k<n→w.cell? ⟨g,k*2+1,none⟩=some (.int .i64 0)
theorem ZeroBalls.bel {g n:Nat}{w w':World} (h:ZeroBalls g n w) (b:Below w.heap.size w w'):ZeroBalls g n w' :=
 ⟨Nat.lt_of_lt_of_le h.lt b.size,fun k hk=>(b.cell (p:=⟨g,k*2,none⟩) h.lt).trans (h.re k hk),fun k hk=>(b.cell (p:=⟨g,k*2+1,none⟩) h.lt).trans (h.ra k hk)⟩
set_option maxHeartbeats 4000000 in
theorem none3_any (g n cap:Nat) (hn:n≤1000) (w:World) (h:ZeroBalls g n w) :
  Calls Tryz.prog 31 #[.slice (some ⟨g,0,none⟩) n cap] w fun e w'=>e = .returned (.bool true)∧Below w.heap.size w w':=by
 have hg:=h.lt
 have SB:=Lib.hid (fun w=>SameBall_same 0 0 0 w)
 go_enter Tryz.func31,Tryz.ntmps31
 go_wp2_with fail
 go_loopw [3] (fun i wr=>∃k:Nat,k≤n∧i = .int .i64 k∧Below w.heap.size w wr) (fun i _=>n-(intOf i).toNat)
 case atStart=>exact⟨0,by omega,rfl,blw⟩
 case round =>
  obtain⟨k,hk,rfl,A9⟩:=hrel
  by_cases hlt:k<n
  ·have Z:=h.bel A9
   have E1:=Z.re k hlt
   have E2:=Z.ra k hlt
   have hlt2:(k:Int)<n:=by omega
   clear h Z
   go_wp2_with fail
   refine(SB.out _).mono ?_
   rintro e w21 ⟨rfl,A1⟩
   have A3:=A1.size
   (try simp at A3)
   go_wp2_with fail
   go_roundw
   case rel=>exact⟨k+1,by omega,by first|(simp;done)|(simp;omega),blw⟩
   case measure=>simp[intOf];omega
  ·obtain rfl:k=n:=by omega
   have hlt2:¬((k:Int)<k):=by omega
   clear h
   repeat' (first|go_values|go_skip|go_guarded|go_step|go_upon|(simp only[];go_simp))
   go_ret
   exact⟨rfl,blw⟩
end Go.Proofs.YtnljkhlmdacfaaaGreatDoor
