/- Joined: PredErr PredOk PredAll. -/
import Derived.Test.YticobgianbecpaaGreatDoorKFit
import Derived.Deep.RegionHeld3
import Derived.BigRegion
import Derived.Maps.AppendAt
import Derived.Test.YticobgianbecpaaGreatDoorKRefl
namespace Go.Proofs.YticobgianbecpaaGreatDoor
open Go Go.Sort Go.RowKit
end Go.Proofs.YticobgianbecpaaGreatDoor
namespace Go.Proofs.YticobgianbecpaaGreatDoor
open Go Go.Sort Go.RowKit
end Go.Proofs.YticobgianbecpaaGreatDoor
namespace Go.Proofs.YticobgianbecpaaGreatDoor
open Go Go.Sort Go.RowKit
theorem times_to (R S:Res) (hR:Fine R) (hS:Fine S) (w:World) :
  Calls Tryz.prog 127 #[.agg #[.complex .f64 (fl R.a) (fl R.b),.int .i64 R.c],.agg #[.complex .f64 (fl S.a) (fl S.b),.int .i64 S.c]] w fun E w' =>
   E = .returned (.tuple #[.agg #[.complex .f64 (fl (ti R S).a) (fl (ti R S).b),.int .i64 (ti R S).c],.int .i64 (ti R S).q])∧Below w.heap.size w w':=by
 have C:=Times_any R.a R.b R.c S.a S.b S.c w hR.f1 hR.f2 hS.f1 hS.f2
 rw[show timesM R.a R.b R.c S.a S.b S.c=ti R S from by unfold ti;rfl,out_quad]at C
 exact C
theorem energy_to (R:Res) (h:Fine R) (w:World):Calls Tryz.prog 40 #[.agg #[.complex .f64 (fl R.a) (fl R.b),.int .i64 R.c]] w fun E w' =>
  E = .returned (.tuple #[.agg #[.int .i64 (enRL R),.int .i64 (enRH R)],.int .i64 0])∧Below w.heap.size w w':=by
 unfold enRL enRH
 exact Energy_yes R.a R.b R.c w h.right
theorem askF_ok {wv ix si oi ol:Int}{ls:List Box}{pa:Option Addr}{cap:Nat} (hs:setQ wv ix si=0) (hb:checkQ ls=0) (ho:onQ oi ol=0) (po:Int) (hp:po=0∨po=1):AskOk (askF wv ix si po ls oi ol pa cap):=by
 obtain⟨s1,s2,s3⟩:=setQ_zero hs
 obtain⟨b1,b2,b3⟩:=checkQ_zero hb
 obtain⟨o1,o2⟩:=onQ_zero ho
 exact⟨s2.1,s2.2,s3.1,Int.le_refl _,s3.2,hp,s1.1,Int.le_refl _,s1.2,b1,Nat.le_trans b3 (by decide),o1.1,o1.2,o2.1,o2.2⟩
theorem reflected_to {wv ix si oi ol po:Int}{ls:List Box}{pa:Option Addr}{cap:Nat} (hA:AskOk (askF wv ix si po ls oi ol pa cap)) (w:World) (hr:Row pa ls w) (hpa:∀a,pa=some a→a.block<w.heap.size)
  (R:Res) (hR:ampR (askF wv ix si po ls oi ol pa cap) false=R) (w':World) (h:Below w.heap.size w w') :
  Calls Tryz.prog 27 #[.agg #[.int .i64 ix,.int .i64 si,.int .i64 si,.int .i64 po,.int .i64 wv,.int .i64 wv,.slice pa ls.length cap,.int .i64 oi,.int .i64 ol]] w' fun E w2 =>
   E = .returned (.tuple #[.agg #[.complex .f64 (fl R.a) (fl R.b),.int .i64 R.c],.int .i64 R.q])∧Below w'.heap.size w' w2:=by
 have C:=Reflected_any _ hA w' (hr.bel h) (fun a ha=>Nat.lt_of_lt_of_le (hpa a ha) h.size)
 rw[hR,out_quad]at C
 exact C
@[irreducible] def predM (wv ix si:Int) (ls:List Box) (oi ol:Int):Seen :=
 if fst3 (setQ wv ix si) (checkQ ls) (onQ oi ol)=0 then seenB wv ix si ls oi ol else .bad (fst3 (setQ wv ix si) (checkQ ls) (onQ oi ol))
theorem fst3_zero {a b c:Int} (h:fst3 a b c=0):a=0∧b=0∧c=0:=by
 unfold fst3 at h
 split at h
 ·split at h
  ·exact⟨by assumption,by assumption,h⟩
  ·exact absurd h (by assumption)
 ·exact absurd h (by assumption)
end Go.Proofs.YticobgianbecpaaGreatDoor
