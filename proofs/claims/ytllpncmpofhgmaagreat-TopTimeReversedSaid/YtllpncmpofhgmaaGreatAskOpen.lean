/- Taking apart an ask that came in. -/
import Derived.Test.YtllpncmpofhgmaaGreatOpen
namespace Go.Proofs.YtllpncmpofhgmaaGreat
open Go.ChangeShapes Go.WideShapes Go.ChangeAt Go.RowKit Go.Joins Go Go.Deep
def askType (P:Program) (t:TypeId):Bool :=
 match P.underlying t with
 | some (.struct fs) =>
  decide (P.cellsOf t=9)&&((List.range 9).all fun i=>decide (i=6)||fs.toList.any fun f=>flatInt P 8 f.type&&decide (f.offset≤i)&&decide (i<f.offset+P.cellsOf f.type)) &&
   fs.toList.any fun f=>decide (f.offset=6)&&decide (P.cellsOf f.type=1)&&(match P.underlying f.type with|some (.slice e)=>flatInt P 8 e&&decide (P.cellsOf e=5)|_=>false)
 | _=>false
section
variable {H:Type}{enc:TypeId × Value→H}{P:Program}{w:World}{base:Nat}{spare:Nat→Bool}{held:Bool}
theorem ask_cells {t:TypeId}{fuel:Nat}{cs:List Value}{x:DataW H × List MemPlace} (ht:askType P t=true) (hx:DataW.trod enc P w base spare held fuel t cs=some x) :
  (∀i,i<9→i≠6→∃k:Int,cs[i]?=some (.int .i64 k))∧∃(pa:Option Addr) (cap:Nat) (ls:List Box),cs[6]?=some (.slice pa ls.length cap)∧ls.length≤cap∧cap≤maxLen∧(pa=none→ls.length=0∧cap=0)∧Row pa ls w:=by
 unfold askType at ht
 split at ht
 case h_2=>cases ht
 rename_i fs hu
 simp only[Bool.and_eq_true,List.all_eq_true,List.mem_range,decide_eq_true_eq]at ht
 obtain⟨⟨h9,hi⟩,hs⟩:=ht
 obtain⟨xs,m,_,_,hl,hlen,hf⟩:=DataW.trod_struct hu hx
 have cl:cs.length=9:=by omega
 constructor
 ·intro i i9 i6
  have h2:=hi i i9
  simp only[Bool.or_eq_true,decide_eq_true_eq,i6,false_or,List.any_eq_true,Bool.and_eq_true]at h2
  obtain⟨f,hm,⟨h1,h3⟩,h4⟩:=h2
  obtain⟨j,hj⟩:=List.getElem?_of_mem hm
  have hj':fs[j]?=some f:=by simpa using hj
  have hjl:j<xs.length:=by rw[hlen];exact(Array.getElem?_eq_some_iff.1 hj').1
  have hy:=hf j f hj'
  rw[List.getElem?_eq_getElem hjl]at hy
  have hc:cs[i]?=some cs[i]:=List.getElem?_eq_getElem (by omega)
  obtain⟨k,e,_⟩:=flat_cells 8 f.type h1 m _ _ hy (i-f.offset) cs[i] (by
   rw[List.getElem?_take_of_lt (by omega),List.getElem?_drop,show f.offset+(i-f.offset)=i by omega]
   exact hc)
  exact⟨k,by rw[hc,e]⟩
 ·simp only[List.any_eq_true,Bool.and_eq_true,decide_eq_true_eq]at hs
  obtain⟨f,hm,⟨h1,h3⟩,h4⟩:=hs
  obtain⟨j,hj⟩:=List.getElem?_of_mem hm
  have hj':fs[j]?=some f:=by simpa using hj
  have hjl:j<xs.length:=by rw[hlen];exact(Array.getElem?_eq_some_iff.1 hj').1
  have hy:=hf j f hj'
  rw[List.getElem?_eq_getElem hjl]at hy
  split at h4
  case h_2=>cases h4
  rename_i e he
  simp only[Bool.and_eq_true,decide_eq_true_eq]at h4
  obtain⟨pa,cap,ls,hcs,h5,h6,h7,h8⟩:=open_boxes_cells he h4.1 h4.2 hy
  have hc:((cs.drop f.offset).take (P.cellsOf f.type))[0]?=some (.slice pa ls.length cap):=by rw[hcs];rfl
  rw[List.getElem?_take_of_lt (by omega),List.getElem?_drop,h1]at hc
  exact⟨pa,cap,ls,hc,h5,h6,h7,h8⟩
theorem open_ask {r:Reach}{b0:Nat}{t:TypeId}{v:Value}{d:DataW H}{p:List MemPlace} (ht:askType P t=true) (hs:Value.okWide P w r b0 t v→∃cs,v = .agg cs∧cs.size=9)
  (hv:Value.okWide P w r b0 t v) (h:DataW.Trod enc P w base spare held t v d p):∃A:Ask,v=A.val∧A.ls.length≤A.cap∧A.cap≤maxLen∧(A.pa=none→A.ls.length=0∧A.cap=0)∧Row A.pa A.ls w:=by
 obtain⟨cs,rfl,hn⟩:=hs hv
 obtain⟨fuel,hx⟩:=h
 obtain⟨hi,pa,cap,ls,h6,h7,h8,h9,hr⟩:=ask_cells ht hx
 simp only[Value.cells]at hi h6
 obtain⟨k0,e0⟩:=hi 0 (by decide) (by decide)
 obtain⟨k1,e1⟩:=hi 1 (by decide) (by decide)
 obtain⟨k2,e2⟩:=hi 2 (by decide) (by decide)
 obtain⟨k3,e3⟩:=hi 3 (by decide) (by decide)
 obtain⟨k4,e4⟩:=hi 4 (by decide) (by decide)
 obtain⟨k5,e5⟩:=hi 5 (by decide) (by decide)
 obtain⟨k7,e7⟩:=hi 7 (by decide) (by decide)
 obtain⟨k8,e8⟩:=hi 8 (by decide) (by decide)
 refine⟨⟨k0,k1,k2,k3,k4,k5,ls,k7,k8,pa,cap⟩,?_,h7,h8,h9,hr⟩
 unfold Ask.val
 congr 1
 apply Array.toList_inj.1
 have hl:cs.toList.length=9:=by simpa using hn
 generalize cs.toList=l at *
 match l,hl with
 | [a0,a1,a2,a3,a4,a5,a6,a7,a8],_ =>
  simp at e0 e1 e2 e3 e4 e5 h6 e7 e8
  subst e0 e1 e2 e3 e4 e5 h6 e7 e8
  rfl
end
end Go.Proofs.YtllpncmpofhgmaaGreat
