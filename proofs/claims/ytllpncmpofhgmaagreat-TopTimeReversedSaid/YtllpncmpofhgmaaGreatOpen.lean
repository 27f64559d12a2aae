/- Taking arguments apart: aggregates of whole numbers, and rows of such. -/
import Derived.ProofKit
import Derived.Lib.SmallJoins
import Derived.OpenShut
import Derived.WideShapes
import Derived.Deep.Slices
import Derived.Test.YtllpncmpofhgmaaGreatKLight
namespace Go.Proofs.YtllpncmpofhgmaaGreat
open Go.ChangeShapes Go.WideShapes Go.ChangeAt Go.RowKit Go.Joins Go Go.Deep
def flatInt (P:Program):Nat→TypeId→Bool
 | 0,_=>false
 | n+1,t =>
  match P.underlying t with
  | some (.int .i64)=>true
  | some (.struct fs)=>fs.toList.all (fun f=>flatInt P n f.type)&&(List.range (P.cellsOf t)).all (fun i=>fs.toList.any fun f=>decide (f.offset≤i)&&decide (i<f.offset+P.cellsOf f.type))
  | some (.array k e)=>flatInt P n e&&decide (0<P.cellsOf e)&&decide (P.cellsOf t=k*P.cellsOf e)
  | _=>false
section
variable {H:Type}{enc:TypeId × Value→H}{P:Program}{w:World}{base:Nat}{spare:Nat→Bool}{held:Bool}
theorem flat_cells (n:Nat):∀t,flatInt P n t=true→∀(fuel:Nat) (cs:List Value) (x:DataW H × List MemPlace),DataW.trod enc P w base spare held fuel t cs=some x →
  ∀(i:Nat) (c:Value),cs[i]?=some c→∃k:Int,c = .int .i64 k∧(Lit.int .i64 k).wf=true:=by
 induction n with
 | zero=>intro t h;simp[flatInt]at h
 | succ n ih =>
  intro t h fuel cs x hx i c hc
  unfold flatInt at h
  split at h
  ·rename_i ht
   obtain⟨k,rfl,_,hw⟩:=DataW.trod_int ht hx
   match i,hc with
   | 0,hc=>simp at hc;exact⟨k,hc.symm,hw⟩
  ·rename_i fs ht
   obtain⟨xs,m,_,_,hl,hlen,hf⟩:=DataW.trod_struct ht hx
   simp only[Bool.and_eq_true,List.all_eq_true,List.mem_range]at h
   have hi:i<cs.length:=(List.getElem?_eq_some_iff.1 hc).1
   have h2:=h.2 i (by omega)
   simp only[List.any_eq_true,Bool.and_eq_true,decide_eq_true_eq]at h2
   obtain⟨f,hm,h3,h4⟩:=h2
   obtain⟨j,hj⟩:=List.getElem?_of_mem hm
   have hj':fs[j]?=some f:=by simpa using hj
   have hjl:j<xs.length:=by
    rw[hlen]
    exact(Array.getElem?_eq_some_iff.1 hj').1
   have hy:=hf j f hj'
   rw[List.getElem?_eq_getElem hjl]at hy
   refine ih f.type (h.1 f hm) m _ _ hy (i-f.offset) c ?_
   rw[List.getElem?_take_of_lt (by omega),List.getElem?_drop,show f.offset+(i-f.offset)=i by omega]
   exact hc
  ·rename_i k e ht
   obtain⟨xs,m,_,_,hl,hlen,hf⟩:=DataW.trod_array ht hx
   simp only[Bool.and_eq_true,decide_eq_true_eq]at h
   obtain⟨⟨h1,h2⟩,h3⟩:=h
   have hi:i<cs.length:=(List.getElem?_eq_some_iff.1 hc).1
   have hlt:i<k*P.cellsOf e:=by omega
   have hd:i/P.cellsOf e<k:=Nat.div_lt_of_lt_mul (by rw[Nat.mul_comm];exact hlt)
   have hm:i%P.cellsOf e<P.cellsOf e:=Nat.mod_lt _ h2
   have hy:=hf (i/P.cellsOf e) hd
   rw[List.getElem?_eq_getElem (by omega)]at hy
   refine ih e h1 m _ _ hy (i%P.cellsOf e) c ?_
   rw[List.getElem?_take_of_lt hm,List.getElem?_drop,show i/P.cellsOf e*P.cellsOf e+i%P.cellsOf e=i from Nat.div_add_mod' _ _]
   exact hc
  ·cases h
theorem open_flat {r:Reach}{b0 n:Nat}{t:TypeId}{v:Value}{d:DataW H}{p:List MemPlace} (hs:Value.okWide P w r b0 t v→∃cs,v = .agg cs∧cs.size=n) (hf:flatInt P 8 t=true)
  (hv:Value.okWide P w r b0 t v) (h:DataW.Trod enc P w base spare held t v d p):∃l:List Int,l.length=n∧v = .agg (l.map fun k=>Value.int .i64 k).toArray:=by
 obtain⟨cs,rfl,hn⟩:=hs hv
 obtain⟨fuel,hx⟩:=h
 have key:=flat_cells 8 t hf fuel _ _ hx
 simp only[Value.cells]at key
 refine⟨cs.toList.map (fun c=>match c with | .int .i64 k=>k|_=>0),by simpa using hn,?_⟩
 congr 1
 apply Array.toList_inj.1
 simp only[List.map_map]
 refine(List.map_id cs.toList).symm.trans (List.map_congr_left fun c hc => ?_)
 obtain⟨i,hi⟩:=List.getElem?_of_mem hc
 obtain⟨k,rfl,_⟩:=key i c hi
 rfl
theorem list2 {α:Type}{l:List α} (h:l.length=2):∃a b,l = [a,b]:=by
 match l,h with
 | [a,b],_=>exact⟨a,b,rfl⟩
theorem list3 {α:Type}{l:List α} (h:l.length=3):∃a b c,l = [a,b,c]:=by
 match l,h with
 | [a,b,c],_=>exact⟨a,b,c,rfl⟩
theorem open_flat_row {t e:TypeId}{fuel:Nat}{cs:List Value}{x:DataW H × List MemPlace} (ht:P.underlying t=some (.slice e)) (hf:flatInt P 8 e=true) (h:DataW.trod enc P w base spare held fuel t cs=some x) :
  ∃(pa:Option Addr) (len cap:Nat) (Z:Nat→Nat→Int),cs = [.slice pa len cap]∧len≤cap∧cap≤maxLen∧(pa=none→len=0∧cap=0) ∧
   ∀i,i<len→∃a,pa=some a∧∀j,j<P.cellsOf e→w.cell? (a.add (i*P.cellsOf e+j))=some (.int .i64 (Z i j))∧(Lit.int .i64 (Z i j)).wf=true:=by
 rcases open_slice ht h with⟨rfl,_⟩|⟨a,len,cap,m,n,D,Pl,rfl,hb,hl,hm,hmm,_,hx⟩
 ·exact⟨none,0,0,fun _ _=>0,rfl,Nat.le_refl _,Nat.zero_le _,fun _=>⟨rfl,rfl⟩,fun i hi=>absurd hi (Nat.not_lt_zero _)⟩
 ·refine⟨some a,len,cap,fun i j=>match w.cell? (a.add (i*P.cellsOf e+j))with|some (.int .i64 k)=>k|_=>0,rfl,hl,hm,fun h=>(by cases h),fun i hi=>⟨a,rfl,fun j hj => ?_⟩⟩
  have hlm:len≤m:=by rw[hmm];split<;>omega
  obtain⟨cs',h1,h2⟩:=hx i (by omega)
  obtain⟨_,hlen,hcell⟩:=World.cells?_some h1
  have hc:=hcell j hj
  rw[add_add]at hc
  have hj':j<cs'.length:=by omega
  rw[List.getElem?_eq_getElem hj']at hc
  obtain⟨k,hk,hw⟩:=flat_cells 8 e hf n cs' _ h2 j _ (List.getElem?_eq_getElem hj')
  rw[hk]at hc
  simp only[hc]
  exact⟨trivial,hw⟩
theorem open_boxes_cells {t e:TypeId}{fuel:Nat}{cs:List Value}{x:DataW H × List MemPlace} (ht:P.underlying t=some (.slice e)) (hf:flatInt P 8 e=true) (hc:P.cellsOf e=5) (h:DataW.trod enc P w base spare held fuel t cs=some x) :
  ∃(pa:Option Addr) (cap:Nat) (ls:List Box),cs = [.slice pa ls.length cap]∧ls.length≤cap∧cap≤maxLen∧(pa=none→ls.length=0∧cap=0)∧Row pa ls w:=by
 obtain⟨pa,len,cap,Z,rfl,h1,h2,h3,h4⟩:=open_flat_row ht hf h
 rw[hc]at h4
 refine⟨pa,cap,(List.range len).map fun i=>⟨Z i 0,Z i 1,Z i 2,Z i 3,Z i 4⟩,by simp,by simpa using h1,h2,by simpa using h3,⟨fun j b hj => ?_⟩⟩
 have hjl:j<len:=by simpa using(List.getElem?_eq_some_iff.1 hj).1
 obtain⟨a,ha,hcell⟩:=h4 j hjl
 rw[List.getElem?_map,List.getElem?_range hjl]at hj
 simp only[Option.map_some,Option.some.injEq]at hj
 subst hj
 have e:∀i,w.cell? ((a.add (j*5)).add i)=w.cell? (a.add (j*5+i)):=fun i=>by rw[add_add]
 have k0:=(e 0).trans (hcell 0 (by omega)).1
 have k1:=(e 1).trans (hcell 1 (by omega)).1
 have k2:=(e 2).trans (hcell 2 (by omega)).1
 have k3:=(e 3).trans (hcell 3 (by omega)).1
 have k4:=(e 4).trans (hcell 4 (by omega)).1
 have kb:=World.block_lt_of_cell? w _ (hcell 0 (by omega)).1
 rw[block_add]at kb
 exact⟨a,ha,by rw[block_add];exact kb,k0,k1,k2,k3,k4⟩
theorem open_boxes {r:Reach}{b0:Nat}{t e:TypeId}{v:Value}{d:DataW H}{p:List MemPlace} (ht:P.underlying t=some (.slice e)) (hf:flatInt P 8 e=true) (hc:P.cellsOf e=5)
  (hv:Value.okWide P w r b0 t v) (h:DataW.Trod enc P w base spare held t v d p) :
  ∃(pa:Option Addr) (cap:Nat) (ls:List Box),v = .slice pa ls.length cap∧ls.length≤cap∧cap≤maxLen∧(pa=none→ls.length=0∧cap=0)∧Row pa ls w:=by
 obtain⟨a,l,c,rfl⟩:=okWide_slice ht hv
 obtain⟨fuel,hx⟩:=h
 obtain⟨pa,cap,ls,h1,h2⟩:=open_boxes_cells ht hf hc hx
 simp only[Value.cells,List.cons.injEq,and_true]at h1
 exact⟨pa,cap,ls,h1,h2⟩
end
end Go.Proofs.YtllpncmpofhgmaaGreat
