/- Joined: Open AskOpen Shaped. -/
import Derived.ProofKit
import Derived.Lib.SmallJoins
import Derived.OpenShut
import Derived.WideShapes
import Derived.Deep.Slices
import Derived.Test.YticobgianbecpaaGreatDoorKLight
import Derived.Handed
import Derived.HandedShaped
namespace Go.Proofs.YticobgianbecpaaGreatDoor
open Go.ChangeShapes Go.WideShapes Go.ChangeAt Go.RowKit Go.Joins Go Go.Deep
def flatInt (P:Program):Nat→TypeId→Bool
 | 0,_=>false
 | n+1,t =>
  match P.underlying t with
  | some (.int .i64)=>true
  | some (.struct fs)=>fs.toList.all (fun f=>flatInt P n f.type)&&(List.range (P.cellsOf t)).all (fun i=>fs.toList.any fun f=>decide (f.offset≤i)&&decide (i<f.offset+P.cellsOf f.type))
  | some (.array k e)=>flatInt P n e&&decide (0<P.cellsOf e)&&decide (P.cellsOf t=k*P.cellsOf e)
  | _=>false
section
variable {H:Type}{enc:TypeId × Value→H}{P:Program}{w:World}{base:Nat}{spare:Nat→Bool}{held:Bool}
theorem flat_cells (n:Nat):∀t,flatInt P n t=true→∀(fuel:Nat) (cs:List Value) (x:DataW H × List MemPlace),DataW.trod enc P w base spare held fuel t cs=some x →
  ∀(i:Nat) (c:Value),cs[i]?=some c→∃k:Int,c = .int .i64 k∧(Lit.int .i64 k).wf=true:=by
 induction n with
 | zero=>intro t h;simp[flatInt]at h
 | succ n ih =>
  intro t h fuel cs x hx i c hc
  unfold flatInt at h
  split at h
  ·rename_i ht
   obtain⟨k,rfl,_,hw⟩:=DataW.trod_int ht hx
   match i,hc with
   | 0,hc=>simp at hc;exact⟨k,hc.symm,hw⟩
  ·rename_i fs ht
   obtain⟨xs,m,_,_,hl,hlen,hf⟩:=DataW.trod_struct ht hx
   simp only[Bool.and_eq_true,List.all_eq_true,List.mem_range]at h
   have hi:i<cs.length:=(List.getElem?_eq_some_iff.1 hc).1
   have h2:=h.2 i (by omega)
   simp only[List.any_eq_true,Bool.and_eq_true,decide_eq_true_eq]at h2
   obtain⟨f,hm,h3,h4⟩:=h2
   obtain⟨j,hj⟩:=List.getElem?_of_mem hm
   have hj':fs[j]?=some f:=by simpa using hj
   have hjl:j<xs.length:=by
    rw[hlen]
    exact(Array.getElem?_eq_some_iff.1 hj').1
   have hy:=hf j f hj'
   rw[List.getElem?_eq_getElem hjl]at hy
   refine ih f.type (h.1 f hm) m _ _ hy (i-f.offset) c ?_
   rw[List.getElem?_take_of_lt (by omega),List.getElem?_drop,show f.offset+(i-f.offset)=i by omega]
   exact hc
  ·rename_i k e ht
   obtain⟨xs,m,_,_,hl,hlen,hf⟩:=DataW.trod_array ht hx
   simp only[Bool.and_eq_true,decide_eq_true_eq]at h
   obtain⟨⟨h1,h2⟩,h3⟩:=h
   have hi:i<cs.length:=(List.getElem?_eq_some_iff.1 hc).1
   have hlt:i<k*P.cellsOf e:=by omega
   have hd:i/P.cellsOf e<k:=Nat.div_lt_of_lt_mul (by rw[Nat.mul_comm];exact hlt)
   have hm:i%P.cellsOf e<P.cellsOf e:=Nat.mod_lt _ h2
   have hy:=hf (i/P.cellsOf e) hd
   rw[List.getElem?_eq_getElem (by omega)]at hy
   refine ih e h1 m _ _ hy (i%P.cellsOf e) c ?_
   rw[List.getElem?_take_of_lt hm,List.getElem?_drop,show i/P.cellsOf e*P.cellsOf e+i%P.cellsOf e=i from Nat.div_add_mod' _ _]
   exact hc
  ·cases h
theorem open_flat {r:Reach}{b0 n:Nat}{t:TypeId}{v:Value}{d:DataW H}{p:List MemPlace} (hs:Value.okWide P w r b0 t v→∃cs,v = .agg cs∧cs.size=n) (hf:flatInt P 8 t=true)
  (hv:Value.okWide P w r b0 t v) (h:DataW.Trod enc P w base spare held t v d p):∃l:List Int,l.length=n∧v = .agg (l.map fun k=>Value.int .i64 k).toArray:=by
 obtain⟨cs,rfl,hn⟩:=hs hv
 obtain⟨fuel,hx⟩:=h
 have key:=flat_cells 8 t hf fuel _ _ hx
 simp only[Value.cells]at key
 refine⟨cs.toList.map (fun c=>match c with | .int .i64 k=>k|_=>0),by simpa using hn,?_⟩
 congr 1
 apply Array.toList_inj.1
 simp only[List.map_map]
 refine(List.map_id cs.toList).symm.trans (List.map_congr_left fun c hc => ?_)
 obtain⟨i,hi⟩:=List.getElem?_of_mem hc
 obtain⟨k,rfl,_⟩:=key i c hi
 rfl
theorem list2 {α:Type}{l:List α} (h:l.length=2):∃a b,l = [a,b]:=by
 match l,h with
 | [a,b],_=>exact⟨a,b,rfl⟩
theorem list3 {α:Type}{l:List α} (h:l.length=3):∃a b c,l = [a,b,c]:=by
 match l,h with
 | [a,b,c],_=>exact⟨a,b,c,rfl⟩
theorem open_flat_row {t e:TypeId}{fuel:Nat}{cs:List Value}{x:DataW H × List MemPlace} (ht:P.underlying t=some (.slice e)) (hf:flatInt P 8 e=true) (h:DataW.trod enc P w base spare held fuel t cs=some x) :
  ∃(pa:Option Addr) (len cap:Nat) (Z:Nat→Nat→Int),cs = [.slice pa len cap]∧len≤cap∧cap≤maxLen∧(pa=none→len=0∧cap=0) ∧
   ∀i,i<len→∃a,pa=some a∧∀j,j<P.cellsOf e→w.cell? (a.add (i*P.cellsOf e+j))=some (.int .i64 (Z i j))∧(Lit.int .i64 (Z i j)).wf=true:=by
 rcases open_slice ht h with⟨rfl,_⟩|⟨a,len,cap,m,n,D,Pl,rfl,hb,hl,hm,hmm,_,hx⟩
 ·exact⟨none,0,0,fun _ _=>0,rfl,Nat.le_refl _,Nat.zero_le _,fun _=>⟨rfl,rfl⟩,fun i hi=>absurd hi (Nat.not_lt_zero _)⟩
 ·refine⟨some a,len,cap,fun i j=>match w.cell? (a.add (i*P.cellsOf e+j))with|some (.int .i64 k)=>k|_=>0,rfl,hl,hm,fun h=>(by cases h),fun i hi=>⟨a,rfl,fun j hj => ?_⟩⟩
  have hlm:len≤m:=by rw[hmm];split<;>omega
  obtain⟨cs',h1,h2⟩:=hx i (by omega)
  obtain⟨_,hlen,hcell⟩:=World.cells?_some h1
  have hc:=hcell j hj
  rw[add_add]at hc
  have hj':j<cs'.length:=by omega
  rw[List.getElem?_eq_getElem hj']at hc
  obtain⟨k,hk,hw⟩:=flat_cells 8 e hf n cs' _ h2 j _ (List.getElem?_eq_getElem hj')
  rw[hk]at hc
  simp only[hc]
  exact⟨trivial,hw⟩
theorem open_boxes_cells {t e:TypeId}{fuel:Nat}{cs:List Value}{x:DataW H × List MemPlace} (ht:P.underlying t=some (.slice e)) (hf:flatInt P 8 e=true) (hc:P.cellsOf e=5) (h:DataW.trod enc P w base spare held fuel t cs=some x) :
  ∃(pa:Option Addr) (cap:Nat) (ls:List Box),cs = [.slice pa ls.length cap]∧ls.length≤cap∧cap≤maxLen∧(pa=none→ls.length=0∧cap=0)∧Row pa ls w:=by
 obtain⟨pa,len,cap,Z,rfl,h1,h2,h3,h4⟩:=open_flat_row ht hf h
 rw[hc]at h4
 refine⟨pa,cap,(List.range len).map fun i=>⟨Z i 0,Z i 1,Z i 2,Z i 3,Z i 4⟩,by simp,by simpa using h1,h2,by simpa using h3,⟨fun j b hj => ?_⟩⟩
 have hjl:j<len:=by simpa using(List.getElem?_eq_some_iff.1 hj).1
 obtain⟨a,ha,hcell⟩:=h4 j hjl
 rw[List.getElem?_map,List.getElem?_range hjl]at hj
 simp only[Option.map_some,Option.some.injEq]at hj
 subst hj
 have e:∀i,w.cell? ((a.add (j*5)).add i)=w.cell? (a.add (j*5+i)):=fun i=>by rw[add_add]
 have k0:=(e 0).trans (hcell 0 (by omega)).1
 have k1:=(e 1).trans (hcell 1 (by omega)).1
 have k2:=(e 2).trans (hcell 2 (by omega)).1
 have k3:=(e 3).trans (hcell 3 (by omega)).1
 have k4:=(e 4).trans (hcell 4 (by omega)).1
 have kb:=World.block_lt_of_cell? w _ (hcell 0 (by omega)).1
 rw[block_add]at kb
 exact⟨a,ha,by rw[block_add];exact kb,k0,k1,k2,k3,k4⟩
theorem open_boxes {r:Reach}{b0:Nat}{t e:TypeId}{v:Value}{d:DataW H}{p:List MemPlace} (ht:P.underlying t=some (.slice e)) (hf:flatInt P 8 e=true) (hc:P.cellsOf e=5)
  (hv:Value.okWide P w r b0 t v) (h:DataW.Trod enc P w base spare held t v d p) :
  ∃(pa:Option Addr) (cap:Nat) (ls:List Box),v = .slice pa ls.length cap∧ls.length≤cap∧cap≤maxLen∧(pa=none→ls.length=0∧cap=0)∧Row pa ls w:=by
 obtain⟨a,l,c,rfl⟩:=okWide_slice ht hv
 obtain⟨fuel,hx⟩:=h
 obtain⟨pa,cap,ls,h1,h2⟩:=open_boxes_cells ht hf hc hx
 simp only[Value.cells,List.cons.injEq,and_true]at h1
 exact⟨pa,cap,ls,h1,h2⟩
end
end Go.Proofs.YticobgianbecpaaGreatDoor
namespace Go.Proofs.YticobgianbecpaaGreatDoor
open Go.ChangeShapes Go.WideShapes Go.ChangeAt Go.RowKit Go.Joins Go Go.Deep
def askType (P:Program) (t:TypeId):Bool :=
 match P.underlying t with
 | some (.struct fs) =>
  decide (P.cellsOf t=9)&&((List.range 9).all fun i=>decide (i=6)||fs.toList.any fun f=>flatInt P 8 f.type&&decide (f.offset≤i)&&decide (i<f.offset+P.cellsOf f.type)) &&
   fs.toList.any fun f=>decide (f.offset=6)&&decide (P.cellsOf f.type=1)&&(match P.underlying f.type with|some (.slice e)=>flatInt P 8 e&&decide (P.cellsOf e=5)|_=>false)
 | _=>false
section
variable {H:Type}{enc:TypeId × Value→H}{P:Program}{w:World}{base:Nat}{spare:Nat→Bool}{held:Bool}
theorem ask_cells {t:TypeId}{fuel:Nat}{cs:List Value}{x:DataW H × List MemPlace} (ht:askType P t=true) (hx:DataW.trod enc P w base spare held fuel t cs=some x) :
  (∀i,i<9→i≠6→∃k:Int,cs[i]?=some (.int .i64 k))∧∃(pa:Option Addr) (cap:Nat) (ls:List Box),cs[6]?=some (.slice pa ls.length cap)∧ls.length≤cap∧cap≤maxLen∧(pa=none→ls.length=0∧cap=0)∧Row pa ls w:=by
 unfold askType at ht
 split at ht
 case h_2=>cases ht
 rename_i fs hu
 simp only[Bool.and_eq_true,List.all_eq_true,List.mem_range,decide_eq_true_eq]at ht
 obtain⟨⟨h9,hi⟩,hs⟩:=ht
 obtain⟨xs,m,_,_,hl,hlen,hf⟩:=DataW.trod_struct hu hx
 have cl:cs.length=9:=by omega
 constructor
 ·intro i i9 i6
  have h2:=hi i i9
  simp only[Bool.or_eq_true,decide_eq_true_eq,i6,false_or,List.any_eq_true,Bool.and_eq_true]at h2
  obtain⟨f,hm,⟨h1,h3⟩,h4⟩:=h2
  obtain⟨j,hj⟩:=List.getElem?_of_mem hm
  have hj':fs[j]?=some f:=by simpa using hj
  have hjl:j<xs.length:=by rw[hlen];exact(Array.getElem?_eq_some_iff.1 hj').1
  have hy:=hf j f hj'
  rw[List.getElem?_eq_getElem hjl]at hy
  have hc:cs[i]?=some cs[i]:=List.getElem?_eq_getElem (by omega)
  obtain⟨k,e,_⟩:=flat_cells 8 f.type h1 m _ _ hy (i-f.offset) cs[i] (by
   rw[List.getElem?_take_of_lt (by omega),List.getElem?_drop,show f.offset+(i-f.offset)=i by omega]
   exact hc)
  exact⟨k,by rw[hc,e]⟩
 ·simp only[List.any_eq_true,Bool.and_eq_true,decide_eq_true_eq]at hs
  obtain⟨f,hm,⟨h1,h3⟩,h4⟩:=hs
  obtain⟨j,hj⟩:=List.getElem?_of_mem hm
  have hj':fs[j]?=some f:=by simpa using hj
  have hjl:j<xs.length:=by rw[hlen];exact(Array.getElem?_eq_some_iff.1 hj').1
  have hy:=hf j f hj'
  rw[List.getElem?_eq_getElem hjl]at hy
  split at h4
  case h_2=>cases h4
  rename_i e he
  simp only[Bool.and_eq_true,decide_eq_true_eq]at h4
  obtain⟨pa,cap,ls,hcs,h5,h6,h7,h8⟩:=open_boxes_cells he h4.1 h4.2 hy
  have hc:((cs.drop f.offset).take (P.cellsOf f.type))[0]?=some (.slice pa ls.length cap):=by rw[hcs];rfl
  rw[List.getElem?_take_of_lt (by omega),List.getElem?_drop,h1]at hc
  exact⟨pa,cap,ls,hc,h5,h6,h7,h8⟩
theorem open_ask {r:Reach}{b0:Nat}{t:TypeId}{v:Value}{d:DataW H}{p:List MemPlace} (ht:askType P t=true) (hs:Value.okWide P w r b0 t v→∃cs,v = .agg cs∧cs.size=9)
  (hv:Value.okWide P w r b0 t v) (h:DataW.Trod enc P w base spare held t v d p):∃A:Ask,v=A.val∧A.ls.length≤A.cap∧A.cap≤maxLen∧(A.pa=none→A.ls.length=0∧A.cap=0)∧Row A.pa A.ls w:=by
 obtain⟨cs,rfl,hn⟩:=hs hv
 obtain⟨fuel,hx⟩:=h
 obtain⟨hi,pa,cap,ls,h6,h7,h8,h9,hr⟩:=ask_cells ht hx
 simp only[Value.cells]at hi h6
 obtain⟨k0,e0⟩:=hi 0 (by decide) (by decide)
 obtain⟨k1,e1⟩:=hi 1 (by decide) (by decide)
 obtain⟨k2,e2⟩:=hi 2 (by decide) (by decide)
 obtain⟨k3,e3⟩:=hi 3 (by decide) (by decide)
 obtain⟨k4,e4⟩:=hi 4 (by decide) (by decide)
 obtain⟨k5,e5⟩:=hi 5 (by decide) (by decide)
 obtain⟨k7,e7⟩:=hi 7 (by decide) (by decide)
 obtain⟨k8,e8⟩:=hi 8 (by decide) (by decide)
 refine⟨⟨k0,k1,k2,k3,k4,k5,ls,k7,k8,pa,cap⟩,?_,h7,h8,h9,hr⟩
 unfold Ask.val
 congr 1
 apply Array.toList_inj.1
 have hl:cs.toList.length=9:=by simpa using hn
 generalize cs.toList=l at *
 match l,hl with
 | [a0,a1,a2,a3,a4,a5,a6,a7,a8],_ =>
  simp at e0 e1 e2 e3 e4 e5 h6 e7 e8
  subst e0 e1 e2 e3 e4 e5 h6 e7 e8
  rfl
end
end Go.Proofs.YticobgianbecpaaGreatDoor
namespace Go
variable {H:Type}{enc:TypeId × Value→H}
theorem returnsInHanded_of_change_and_shaped {a:Assume}{C:Checked}{os:Os}{f:FuncId}{fn:Func}{s:ChangeSpec}{conds:List PathCond}{apart fresh handsOn again:Bool}{X:World→Array Value→Prop}
  (hX:∀(w w':World) (args:Array Value),w.heap=w'.heap→X w args→X w' args)
  (own:ownKnob C.prog.godebug=none) (started:os.Started) (noInit:C.prog.inits.idxOf? f=none) (hfn:C.prog.funcs[f]?=some fn)
  (witness:∃(w:World) (tape:Tape) (i:Input),w.os=os∧(w.forCall tape i).Shaped C.prog∧i.vars = []∧Input.okWide C.prog (w.forCall tape i) .any w.heap.size f i ∧
   ((s.pre enc C.prog fn conds apart (w.forCall tape i).memory i.args∧X (w.forCall tape i).memory i.args)∧sizedMet enc C.prog fn (OpenSpec.ofChange s) apart (w.forCall tape i).memory i.args)∧a.holds C.prog (lone (Frame.enter C.prog f i.args .normal) [] (w.forCall tape i)))
  (contract:∀(W:World) (base:Nat) (args:Array Value) (ds gs:List (DataW H)) (before:List MemPlace),
   (∀(j:Nat) t v,fn.params[j]?=some t→args[j]?=some v→Value.okWide C.prog W .any base t v) →
   DataW.Whole enc C.prog fn.params.toList s.vars apart W args.toList ds gs before →
   conds.all (PathCond.test C.prog ⟨fn.params.toList,ds,s.plain.varTypes C.prog,gs⟩)=true →
   (DataW.weightsEach C.prog (fn.params.toList++s.plain.varTypes C.prog) (ds++gs)).all (· ≤ reachBytes)=true→X W args→W.ShapedOpen C.prog →
   a.holds C.prog (lone (Frame.enter C.prog f args .normal) [] W) →
   Calls C.prog f args W fun e W'=>∃v,e = .returned v∧s.post enc C.prog fn apart fresh handsOn again W args v W') :
  ReturnsInHanded a C os f .any (fun w args=>(s.pre enc C.prog fn conds apart w args∧X w args)∧sizedMet enc C.prog fn (OpenSpec.ofChange s) apart w args) (s.post enc C.prog fn apart fresh handsOn again):=by
 refine returnsInHanded_of_calls own started noInit witness ?_
 intro w tape i _ hsh _ hok hpre hholds
 obtain⟨_,_,_,fn',hfn',_,_,_,_,hval⟩:=hok
 have e:fn'=fn:=Option.some.inj (hfn'.symm.trans hfn)
 subst e
 obtain⟨⟨⟨ds,gs,before,hw,hc⟩,hx⟩,hz⟩:=hpre
 have hw':=DataW.Whole.of_heap (w':=w.forCall tape i) (by rfl) hw
 refine(contract (w.forCall tape i) w.heap.size i.args ds gs before hval hw' hc (hz.weights hw) (hX _ _ _ (by rfl) hx) hsh hholds).mono fun e W' ⟨v,he,hp⟩ => ?_
 subst he
 exact ChangeSpec.post_blind hp
end Go
