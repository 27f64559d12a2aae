/- Taking an argument apart that is an array of four whole numbers. -/
import Derived.Test.YticobgianbecpaaGreatDoorKOpen
namespace Go.Proofs.YticobgianbecpaaGreatDoor
open Go.ChangeShapes Go.WideShapes Go.ChangeAt Go.RowKit Go.Joins Go Go.Deep
section
variable {H:Type}{enc:TypeId × Value→H}{P:Program}{w:World}{base:Nat}{spare:Nat→Bool}{held:Bool}
theorem list4 {α:Type}{l:List α} (h:l.length=4):∃a b c d,l = [a,b,c,d]:=by
 match l,h with
 | [a,b,c,d],_=>exact⟨a,b,c,d,rfl⟩
theorem open_arr4 {r:Reach}{b0 n:Nat}{t e:TypeId}{v:Value}{d:DataW H}{p:List MemPlace} (ht:P.underlying t=some (.array n e)) (hf:flatInt P 8 t=true) (hC:P.cellsOf t=4)
  (hv:Value.okWide P w r b0 t v) (h:DataW.Trod enc P w base spare held t v d p):∃x y z u:Int,v = .agg #[.int .i64 x,.int .i64 y,.int .i64 z,.int .i64 u]:=by
 obtain⟨l,hl,rfl⟩:=open_flat (n:=4) (fun h=>by
  simp only[Value.okWide,ht]at h
  obtain⟨cs,rfl,hsz,_⟩:=h
  exact⟨cs,rfl,hsz.trans hC⟩) hf hv h
 obtain⟨x,y,z,u,rfl⟩:=list4 hl
 exact⟨x,y,z,u,rfl⟩
end
end Go.Proofs.YticobgianbecpaaGreatDoor
