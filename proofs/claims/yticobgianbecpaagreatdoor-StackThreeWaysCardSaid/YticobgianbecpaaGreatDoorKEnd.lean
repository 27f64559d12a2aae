/- Joined: Zs CopyAll Cut3. -/
import Derived.Test.YticobgianbecpaaGreatDoorKFit
import Derived.Test.YticobgianbecpaaGreatDoorKLight
namespace Go.Proofs.YticobgianbecpaaGreatDoor
open Go Go.Sort Go.RowKit
structure Zs (p:Option Addr) (n k:Nat) (Z:Nat→Nat→Int) (w:World):Prop where
 get:∀i,i<n→∃a,p=some a∧∀j,j<k→w.cell? (a.add (i*k+j))=some (.int .i64 (Z i j))
theorem Zs.bel {p:Option Addr}{n k:Nat}{Z:Nat→Nat→Int}{w w':World} (h:Zs p n k Z w) (b:Below w.heap.size w w'):Zs p n k Z w' :=
 ⟨fun i hi=>by
  obtain⟨a,ha,hc⟩:=h.get i hi
  exact⟨a,ha,fun j hj=>(b.cell (p:=a.add (i*k+j)) (World.block_lt_of_cell? w _ (hc j hj))).trans (hc j hj)⟩⟩
theorem add_off (a:Addr) (k:Nat):(⟨(a.add k).block,(a.add k).off+1,none⟩:Addr)=a.add (k+1):=by
 unfold Addr.add
 by_cases hk:k=0
 ·subst hk;simp
 ·simp[hk];omega
end Go.Proofs.YticobgianbecpaaGreatDoor
namespace Go.Proofs.YticobgianbecpaaGreatDoor
open Go Go.Sort Go.RowKit
theorem copy_nil (w:World):Calls Tryz.prog 47 #[.slice none 0 0] w fun E w'=>Copied [] 0 w E w':=by
 go_enter Tryz.func47,Tryz.ntmps47
 repeat' (first|go_values|go_skip|go_guarded|go_step|go_upon|(simp only[];go_simp))
 go_ret
 exact⟨w.heap.size,0,rfl,⟨Nat.le_refl _,by simp,fun j b hj=>by simp at hj,fun o=>by go_simp⟩,blw⟩
theorem copy_all (pa:Option Addr) (ls:List Box) (cap:Nat) (hp:pa=none→ls.length=0∧cap=0) (hn:ls.length≤1000) (w:World) (hr:Row pa ls w) :
  Calls Tryz.prog 47 #[.slice pa ls.length cap] w fun E w'=>Copied ls ls.length w E w':=by
 cases pa with
 | none =>
  obtain⟨h1,h2⟩:=hp rfl
  obtain rfl:ls = []:=List.length_eq_zero_iff.1 h1
  subst h2
  exact copy_nil w
 | some a=>exact copy_any a ls cap w hr hn
theorem OwnBox.far {ls:List Box}{N g:Nat}{w:World}{a:Addr}{v:Value} (h:OwnBox ls N g w) (ha:a.block≠g):OwnBox ls N g (w.setCell a v):=by
 refine⟨h.lo,by simpa using h.hi,fun k c hk=>boxAt_five.2 fun m hm => ?_,fun o=>(World.frozen?_setCell _ _ _ _).trans (h.free o)⟩
 rw[← boxAt_five.1 (h.at' k c hk) m hm]
 exact World.cell?_setCell_other _ _ _ _ (fun e=>ha (by rw[e,block_add,block_add]))
theorem OwnBox.bel {ls:List Box}{N g:Nat}{w w':World} (h:OwnBox ls N g w) (k:Below w.heap.size w w'):OwnBox ls N g w' :=
 ⟨h.lo,Nat.lt_of_lt_of_le h.hi k.size,fun j b hj=>(h.at' j b hj).bel k (by rw[block_add];exact h.hi),fun o=>(k.frozen (p:=⟨g,o,none⟩) h.hi).trans (h.free o)⟩
theorem OwnBox.low {ls:List Box}{N M g:Nat}{w:World} (h:OwnBox ls N g w) (hM:M≤N):OwnBox ls M g w:=⟨Nat.le_trans hM h.lo,h.hi,h.at',h.free⟩
end Go.Proofs.YticobgianbecpaaGreatDoor
namespace Go.Proofs.YticobgianbecpaaGreatDoor
open Go Go.Sort Go.RowKit
theorem wp_cut3 {P:Program}{c:Code}{Q:Exit→Act→World→Prop}{a:Act}{w:World} (F:Nat→Nat→Nat→Act→Act) (R:Nat→World→Prop)
  (h1:c.wp P (fun e a' w'=>e = .normal∧∃g k B,a'=F g k B a∧R B w') a w) (h2:∀g k B w',R B w'→Q .normal (F g k B a) w'):c.wp P Q a w :=
 Code.wp_mono (fun e a' w' h=>by obtain⟨rfl,g,k,B,rfl,hR⟩:=h;exact h2 g k B w' hR) h1
theorem hv9 {p q:Prop} (hp:p) (hq:p→q):q:=hq hp
theorem blx {w w':World}{N:Nat} (h:Below N w w') (hw:N=w.heap.size) (b:Nat) (hb:b<N):b<w'.heap.size∧b<w'.heap.size+1∧b<w'.heap.size+1+1∧(∀o,w'.cell? ⟨b,o,none⟩=w.cell? ⟨b,o,none⟩)∧(∀o,w'.frozen? ⟨b,o,none⟩=w.frozen? ⟨b,o,none⟩):=by
 subst hw
 exact bl5 h b hb
theorem keepC {w w':World}{p:Addr}{v:Value} (k:Below w.heap.size w w') (h:w.cell? p=some v):w'.cell? p=some v:=(k.cell (World.block_lt_of_cell? _ _ h)).trans h
end Go.Proofs.YticobgianbecpaaGreatDoor
