/- Rows of whole numbers, opened. -/
import Derived.Test.YtnljkhlmdacfaaaGreatDoorKOpen
import Derived.Test.YtnljkhlmdacfaaaGreatDoorKEnd
namespace Go.Proofs.YtnljkhlmdacfaaaGreatDoor
open Go.ChangeShapes Go.WideShapes Go.ChangeAt Go.RowKit Go.Joins Go Go.Deep
section
variable {H:Type}{enc:TypeId × Value→H}{P:Program}{w:World}{base:Nat}{spare:Nat→Bool}{held:Bool}
theorem open_zs {r:Reach}{b0 k:Nat}{t e:TypeId}{v:Value}{d:DataW H}{p:List MemPlace} (ht:P.underlying t=some (.slice e)) (hf:flatInt P 8 e=true) (hc:P.cellsOf e=k)
  (hv:Value.okWide P w r b0 t v) (h:DataW.Trod enc P w base spare held t v d p) :
  ∃(pa:Option Addr) (n cap:Nat) (Z:Nat→Nat→Int),v = .slice pa n cap∧(pa=none→n=0∧cap=0)∧Zs pa n k Z w:=by
 obtain⟨a,l,c,rfl⟩:=okWide_slice ht hv
 obtain⟨fuel,hx⟩:=h
 obtain⟨pa,len,cap,Z,h1,_,_,h3,h4⟩:=open_flat_row ht hf hx
 simp only[Value.cells,List.cons.injEq,and_true]at h1
 rw[hc]at h4
 exact⟨pa,len,cap,Z,h1,h3,⟨fun i hi=>by
  obtain⟨a,ha,hcell⟩:=h4 i hi
  exact⟨a,ha,fun j hj=>(hcell j hj).1⟩⟩⟩
end
end Go.Proofs.YtnljkhlmdacfaaaGreatDoor
