/- Whether two asks are the same: asks of the same numbers. -/
import Derived.Test.YtnljkhlmdacfaaaGreatDoorKCopy
import Derived.Deep.RegionHeld3
namespace Go.Proofs.YtnljkhlmdacfaaaGreatDoor
open Go Go.Sort Go.RowKit
set_option maxHeartbeats 4000000 in
theorem boxes_eq (p q:Option Addr) (ls:List Box) (cp cq:Nat) (hn:ls.length≤1000000) (w:World) (h1:Row p ls w) (h2:Row q ls w) :
  Calls Tryz.prog 39 #[.slice p ls.length cp,.slice q ls.length cq] w fun E w'=>E = .returned (.bool true)∧Below w.heap.size w w':=by
 have c0:((ls.length:Int) != ls.length)=false:=by simp
 go_enter Tryz.func39,Tryz.ntmps39
 go_wp2_with fail
 go_loopw [5] (fun i wr=>∃k:Nat,k≤ls.length∧i = .int .i64 k∧Below w.heap.size w wr) (fun i _=>ls.length-(intOf i).toNat)
 case atStart=>exact⟨0,by omega,rfl,blw⟩
 case round =>
  obtain⟨k,hk,rfl,A1⟩:=hrel
  by_cases hlt:k<ls.length
  ·obtain⟨b,hb⟩:∃b,ls[k]?=some b:=⟨_,List.getElem?_eq_getElem hlt⟩
   obtain⟨a,ha,hal,hE⟩:=h1.get k b hb
   obtain⟨a',ha',hal',hE'⟩:=h2.get k b hb
   subst ha;subst ha'
   obtain⟨E1,E2,E3,E4,E5⟩:=boxAt.bel hE A1 hal
   obtain⟨F1,F2,F3,F4,F5⟩:=boxAt.bel hE' A1 hal'
   have hlt2:(k:Int)<ls.length:=by omega
   obtain⟨il,ih,tl,th,lo⟩:=b
   simp only at E1 E2 E3 E4 E5 F1 F2 F3 F4 F5
   clear h1 h2 hb hE hE'
   generalize hN:ls.length=n at *
   go_wp2_with fail
   first|(go_region_held3 (fun w'=>w'.cell? (a.add (k*5))=some (.int .i64 il)∧w'.cell? ⟨(a.add (k*5)).block,(a.add (k*5)).off+1,none⟩=some (.int .i64 ih)∧w'.cell? ⟨(a.add (k*5)).block,(a.add (k*5)).off+2,none⟩=some (.int .i64 tl)∧w'.cell? ⟨(a.add (k*5)).block,(a.add (k*5)).off+3,none⟩=some (.int .i64 th)∧w'.cell? ⟨(a.add (k*5)).block,(a.add (k*5)).off+4,none⟩=some (.int .i64 lo)∧w'.cell? (a'.add (k*5))=some (.int .i64 il)∧w'.cell? ⟨(a'.add (k*5)).block,(a'.add (k*5)).off+1,none⟩=some (.int .i64 ih)∧w'.cell? ⟨(a'.add (k*5)).block,(a'.add (k*5)).off+2,none⟩=some (.int .i64 tl)∧w'.cell? ⟨(a'.add (k*5)).block,(a'.add (k*5)).off+3,none⟩=some (.int .i64 th)∧w'.cell? ⟨(a'.add (k*5)).block,(a'.add (k*5)).off+4,none⟩=some (.int .i64 lo)) (simp[*,go_sem]) (fail))|fail "held"
   go_wp2_with fail
   go_roundw
   case rel=>exact⟨k+1,by omega,by first|(simp;done)|(simp;omega),blw⟩
   case measure=>simp[intOf];omega
  ·obtain rfl:k=ls.length:=by omega
   have hlt2:¬((ls.length:Int)<ls.length):=by omega
   clear h1 h2
   repeat' (first|go_values|go_skip|go_guarded|go_step|go_upon|(simp only[];go_simp))
   go_ret
   exact⟨rfl,blw⟩
set_option maxHeartbeats 4000000 in
theorem SameAsk_same (A:Ask) (hn:A.ls.length≤1000000) (p q:Option Addr) (c d:Nat) (w:World) (h1:Row p A.ls w) (h2:Row q A.ls w) :
  Calls Tryz.prog 53 #[(A.mv p c).val,(A.mv q d).val] w fun e w'=>e = .returned (.bool true)∧Below w.heap.size w w':=by
 have BS:=Lib.hid (fun w h1 h2=>boxes_eq p q A.ls c d hn w h1 h2)
 have H1:=Lib.hid h1
 have H2:=Lib.hid h2
 clear h1 h2 hn
 unfold Ask.mv Ask.val
 simp only
 generalize A.ls.length=len at *
 go_enter Tryz.func53,Tryz.ntmps53
 go_wp2_with fail
 refine(BS.out _ (H1.out.bel blw) (H2.out.bel blw)).mono ?_
 rintro e w1 ⟨rfl,A0⟩
 have A7:=A0.size
 (try simp at A7)
 obtain⟨Ac,Ab,Aa,A8,A9⟩:=bl5 A0 (w.heap.size)
 obtain⟨A6,A5,A4,A2,A3⟩:=bl5 A0 (w.heap.size+1)
 repeat' (first|go_values|go_skip|go_guarded|go_step|go_upon|(simp only[];go_simp))
 go_ret
 exact⟨rfl,blw⟩
end Go.Proofs.YtnljkhlmdacfaaaGreatDoor
